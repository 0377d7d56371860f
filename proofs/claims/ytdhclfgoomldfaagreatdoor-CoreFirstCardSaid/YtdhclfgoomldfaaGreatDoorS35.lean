/- Lemmas. -/
import Derived.Test.YtdhclfgoomldfaaGreatDoorS1
import Derived.Test.YtdhclfgoomldfaaGreatDoorS30
import Derived.Test.YtdhclfgoomldfaaGreatDoorS34
set_option linter.all false
namespace Go.Proofs.YtdhclfgoomldfaaGreatDoor
open Go.Proofs.Tryz
set_option maxRecDepth 100000
set_option maxHeartbeats 4000000
open Go.RowKit
def Qy{c}{f}{prog}(a:f.ok):(qB c f prog).ok:=by
 have b:(bm (bf prog f.K)).A<=4294967295:=aI (IU _);unfold qB
 repeat' split
 all_goals first|exact⟨a.K,aE _,a.N,aE _,aE _,aE _⟩|exact⟨a.K,b,a.N,aE _,uT _,aE _⟩|exact⟨a.K,b,a.N,aE _,aE _,aE _⟩|exact⟨a.K,b,a.N,aE _,a.K,aE _⟩
def Kh(d:Co)(f:Ft):Co:={d with Z:=d.Z++[qB d.next f d.prog],next:=wrap64 (d.next+1),Q:=d.Q.drop 1}
def Ap{d}{n}(h:(d.Z.length:Int)>=d.U.Z∨d.Q.length=0):kV n d=d:=by
 cases n with
 |zero=>rfl
 | succ n=>
  unfold kV;by_cases a:(d.Z.length:Int)>=d.U.Z
  ·exact aa a
  ·rw[dZ a,g3 (h.resolve_left a)]
def CU{d}{n k}{f}(c:k<n)(h: ¬(d.Z.length:Int)>=d.U.Z)(a:d.Q[0]?=some f):kV (n-(k+1)) (Kh d f)=kV (n-k) d:=by
 rw[(oT:n-k=(n-(k+1))+1)]
 conv=>rhs;unfold kV
 rw[dZ h];unfold Kh
 cases b:d.Q with
 |nil=>rw[b]at a;cases a
 |cons y l=>rw[b]at a;injection a with a;subst a;rfl
def CV{c}{n}{f}(h:c.I n)(d:f.ok)(e:c.Z.length<=999):(Kh c f).I n:=by
 have b:(c.Z++[qB c.next f c.prog]).length<=1000:=by simp;omega
 have a:(c.Q.drop 1).length<=1000:=by have:=h.Z6;rw[bD];omega
 exact⟨⟨h.ok.U,h.ok.prog,h.ok.Z5,h.ok.r,h.ok.M,aL a dT,Iz h.ok.ZV,aL b dT,sJ h.ok.Z8 (sK (Qy d)),h.ok.Z_,h.ok.Z2,h.ok.data,h.ok.C,h.ok.Y,h.ok.a,h.ok.asked,h.ok.ZZ,h.ok.mem,h.ok.N,h.ok.ret,h.ok.ZU⟩,h.nb,h.cf,h.data,h.C,h.N,b,a,h.Z_,h.prog,h.mem,h.ZM⟩
def VI(agI)(l)(a)(f)(prog)(t:agI.length<=1000)(u:∀x∈agI,x.ok)(s:f.ok)(hp:∀x∈prog,x<=4294967295)(k:prog.length<=1000000):bI C0 91 [.X 17 (agI.map aj) l,vI a,.agg (a4 f),.X 1 (prog.map dU) false] (.X 17 ((agI++[qB a f prog]).map aj) false):=by
 refine e_ func91 rfl<|zV (.agg [vI a,vU f.K,vI 0,vI 0,vI 0,vI 0,zU,vU f.N,vI 0,vI 0,zU,zU,zU,vI 0,vI 0,vB false,vB false])<|zC (ND prog f.K false hp k s.K)<|zC (IV (bf prog f.K) (CI (LN hp f.K)))<|zB rfl (λd=>?_) (λd=>?_)
 ·refine cN (1 != 0) (λ_=>?_) (λm=>by exact absurd m dT);refine zR<|zW (vN agI.length) (cD aj agI)<|zW (vN agI.length) (cD aj agI)<|zM (.X 17 ((agI.take agI.length).map aj) true) (yB (vY aj agI agI.length)) (by refine⟨?_,?_,?_,?_⟩;all_goals (first|exact aG _|decide|(apply FG.2;exact ad)|(show(_:Int)=(_:Int);congr 1;omega)|rfl))<|zV (.X 17 ([[vI a,vU f.K,vI 0,vI 0,vI 0,vI 0,zU,vU f.N,vI 3,vI 0,zU,zU,zU,vI 1,vI 0,vB false,vB false]]) true)<|zF (x:=.S 45 0 (agI.length+1) false) (h':=ao _ 45 (some (.arr (((agI.take agI.length)++([(⟨a,f.K,⟨0,0,0,0,0⟩,f.N,3,0,0,0,0,1,0,false,false⟩:ai)])).map aj) 17))) (Au aj (agI.take agI.length) ([(⟨a,f.K,⟨0,0,0,0,0⟩,f.N,3,0,0,0,0,1,0,false,false⟩:ai)]) ad) (⟨by exact ad,by exact ad,trivial,trivial⟩) ?_;have e:(⟨a,f.K,⟨0,0,0,0,0⟩,f.N,3,0,0,0,0,1,0,false,false⟩:ai)=qB a f prog:=by unfold qB;rw[aa (FV d)];rfl
  apply dK rfl (by show 0+(agI.length+1)<=(((agI.take agI.length)++([(⟨a,f.K,⟨0,0,0,0,0⟩,f.N,3,0,0,0,0,1,0,false,false⟩:ai)])).map aj).length;exact ad) rfl;show AV.X 17 (List.take (agI.length+1) (List.drop 0 (((agI.take agI.length)++([(⟨a,f.K,⟨0,0,0,0,0⟩,f.N,3,0,0,0,0,1,0,false,false⟩:ai)])).map aj))) false=_;rw[jW aj ((agI.take agI.length)++([(⟨a,f.K,⟨0,0,0,0,0⟩,f.N,3,0,0,0,0,1,0,false,false⟩:ai)])) ad];rw[e,cH]
 refine zW (vB ((he (bf prog f.K)) != 0)) (am (db _ _))<|zB rfl (λg=>?_) (λg=>?_)
 ·have b:=wM g;refine cN (2 != 0) (λ_=>?_) (λn=>by exact absurd n dT);refine zR<|zW (vN agI.length) (cD aj agI)<|zW (vN agI.length) (cD aj agI)<|zM (.X 17 ((agI.take agI.length).map aj) true) (yB (vY aj agI agI.length)) (by refine⟨?_,?_,?_,?_⟩;all_goals (first|exact aG _|decide|(apply FG.2;exact ad)|(show(_:Int)=(_:Int);congr 1;omega)|rfl))<|zV (.X 17 ([[vI a,vU f.K,vI 0,vI 0,vI 0,vI 0,zU,vU f.N,vI 3,vI 0,zU,zU,zU,vI 2,vI 0,vB false,vB false]]) true)<|zF (x:=.S 48 0 (agI.length+1) false) (h':=ao _ 48 (some (.arr (((agI.take agI.length)++([(⟨a,f.K,⟨0,0,0,0,0⟩,f.N,3,0,0,0,0,2,0,false,false⟩:ai)])).map aj) 17))) (Au aj (agI.take agI.length) ([(⟨a,f.K,⟨0,0,0,0,0⟩,f.N,3,0,0,0,0,2,0,false,false⟩:ai)]) ad) (⟨by exact ad,by exact ad,trivial,trivial⟩) ?_;have e:(⟨a,f.K,⟨0,0,0,0,0⟩,f.N,3,0,0,0,0,2,0,false,false⟩:ai)=qB a f prog:=by unfold qB;rw[dZ (sI d),aa (by have q:=kv (bf prog f.K);omega)];rfl
  apply dK rfl (by show 0+(agI.length+1)<=(((agI.take agI.length)++([(⟨a,f.K,⟨0,0,0,0,0⟩,f.N,3,0,0,0,0,2,0,false,false⟩:ai)])).map aj).length;exact ad) rfl;show AV.X 17 (List.take (agI.length+1) (List.drop 0 (((agI.take agI.length)++([(⟨a,f.K,⟨0,0,0,0,0⟩,f.N,3,0,0,0,0,2,0,false,false⟩:ai)])).map aj))) false=_;rw[jW aj ((agI.take agI.length)++([(⟨a,f.K,⟨0,0,0,0,0⟩,f.N,3,0,0,0,0,2,0,false,false⟩:ai)])) ad];rw[e,cH]
 have b:=wN g;refine cN (((bm (bf prog f.K)).op)==47) (λh=>?_) (λh=>?_)
 ·have c:=mT h;refine cN (6 != 0) (λ_=>?_) (λo=>by exact absurd o dT);refine zR<|zW (vN agI.length) (cD aj agI)<|zW (vN agI.length) (cD aj agI)<|zM (.X 17 ((agI.take agI.length).map aj) true) (yB (vY aj agI agI.length)) (by refine⟨?_,?_,?_,?_⟩;all_goals (first|exact aG _|decide|(apply FG.2;exact ad)|(show(_:Int)=(_:Int);congr 1;omega)|rfl))<|zV (.X 17 ([[vI a,vU f.K,vI ((bm (bf prog f.K)).op),vI ((bm (bf prog f.K)).rd),vI ((bm (bf prog f.K)).m),vI ((bm (bf prog f.K)).x),vU ((bm (bf prog f.K)).A),vU f.N,vI 3,vI 0,zU,zU,zU,vI 6,vI 0,vB false,vB false]]) true)<|zF (x:=.S 55 0 (agI.length+1) false) (h':=ao _ 55 (some (.arr (((agI.take agI.length)++([(⟨a,f.K,bm (bf prog f.K),f.N,3,0,0,0,0,6,0,false,false⟩:ai)])).map aj) 17))) (Au aj (agI.take agI.length) ([(⟨a,f.K,bm (bf prog f.K),f.N,3,0,0,0,0,6,0,false,false⟩:ai)]) ad) (⟨by exact ad,by exact ad,trivial,trivial⟩) ?_;have e:(⟨a,f.K,bm (bf prog f.K),f.N,3,0,0,0,0,6,0,false,false⟩:ai)=qB a f prog:=by unfold qB;rw[dZ (sI d),dZ ((kv _).1 b),aa c];rfl
  apply dK rfl (by show 0+(agI.length+1)<=(((agI.take agI.length)++([(⟨a,f.K,bm (bf prog f.K),f.N,3,0,0,0,0,6,0,false,false⟩:ai)])).map aj).length;exact ad) rfl;show AV.X 17 (List.take (agI.length+1) (List.drop 0 (((agI.take agI.length)++([(⟨a,f.K,bm (bf prog f.K),f.N,3,0,0,0,0,6,0,false,false⟩:ai)])).map aj))) false=_;rw[jW aj ((agI.take agI.length)++([(⟨a,f.K,bm (bf prog f.K),f.N,3,0,0,0,0,6,0,false,false⟩:ai)])) ad];rw[e,cH]
 have c:=nA h;refine cN (((bm (bf prog f.K)).op)==48) (λi=>?_) (λi=>?_)
 ·have j:=mT i;refine cN (7 != 0) (λ_=>?_) (λp=>by exact absurd p dT);refine zR<|zW (vN agI.length) (cD aj agI)<|zW (vN agI.length) (cD aj agI)<|zM (.X 17 ((agI.take agI.length).map aj) true) (yB (vY aj agI agI.length)) (by refine⟨?_,?_,?_,?_⟩;all_goals (first|exact aG _|decide|(apply FG.2;exact ad)|(show(_:Int)=(_:Int);congr 1;omega)|rfl))<|zV (.X 17 ([[vI a,vU f.K,vI ((bm (bf prog f.K)).op),vI ((bm (bf prog f.K)).rd),vI ((bm (bf prog f.K)).m),vI ((bm (bf prog f.K)).x),vU ((bm (bf prog f.K)).A),vU f.N,vI 3,vI 0,zU,zU,zU,vI 7,vI 0,vB false,vB false]]) true)<|zF (x:=.S 57 0 (agI.length+1) false) (h':=ao _ 57 (some (.arr (((agI.take agI.length)++([(⟨a,f.K,bm (bf prog f.K),f.N,3,0,0,0,0,7,0,false,false⟩:ai)])).map aj) 17))) (Au aj (agI.take agI.length) ([(⟨a,f.K,bm (bf prog f.K),f.N,3,0,0,0,0,7,0,false,false⟩:ai)]) ad) (⟨by exact ad,by exact ad,trivial,trivial⟩) ?_;have e:(⟨a,f.K,bm (bf prog f.K),f.N,3,0,0,0,0,7,0,false,false⟩:ai)=qB a f prog:=by unfold qB;rw[dZ (sI d),dZ ((kv _).1 b),dZ c,aa j];rfl
  apply dK rfl (by show 0+(agI.length+1)<=(((agI.take agI.length)++([(⟨a,f.K,bm (bf prog f.K),f.N,3,0,0,0,0,7,0,false,false⟩:ai)])).map aj).length;exact ad) rfl;show AV.X 17 (List.take (agI.length+1) (List.drop 0 (((agI.take agI.length)++([(⟨a,f.K,bm (bf prog f.K),f.N,3,0,0,0,0,7,0,false,false⟩:ai)])).map aj))) false=_;rw[jW aj ((agI.take agI.length)++([(⟨a,f.K,bm (bf prog f.K),f.N,3,0,0,0,0,7,0,false,false⟩:ai)])) ad];rw[e,cH]
 refine cN (0 != 0) (λr=>by exact absurd r dT) (λ_=>?_);refine zR<|zW (vN agI.length) (cD aj agI)<|zW (vN agI.length) (cD aj agI)<|zM (.X 17 ((agI.take agI.length).map aj) true) (yB (vY aj agI agI.length)) (by refine⟨?_,?_,?_,?_⟩;all_goals (first|exact aG _|decide|(apply FG.2;exact ad)|(show(_:Int)=(_:Int);congr 1;omega)|rfl))<|zV (.X 17 ([[vI a,vU f.K,vI ((bm (bf prog f.K)).op),vI ((bm (bf prog f.K)).rd),vI ((bm (bf prog f.K)).m),vI ((bm (bf prog f.K)).x),vU ((bm (bf prog f.K)).A),vU f.N,vI 0,vI 0,zU,zU,zU,vI 0,vI 0,vB false,vB false]]) true)<|zF (x:=.S 53 0 (agI.length+1) false) (h':=ao _ 53 (some (.arr (((agI.take agI.length)++([(⟨a,f.K,bm (bf prog f.K),f.N,0,0,0,0,0,0,0,false,false⟩:ai)])).map aj) 17))) (Au aj (agI.take agI.length) ([(⟨a,f.K,bm (bf prog f.K),f.N,0,0,0,0,0,0,0,false,false⟩:ai)]) ad) (⟨by exact ad,by exact ad,trivial,trivial⟩) ?_;have e:(⟨a,f.K,bm (bf prog f.K),f.N,0,0,0,0,0,0,0,false,false⟩:ai)=qB a f prog:=by unfold qB;rw[dZ (sI d),dZ ((kv _).1 b),dZ c,dZ (nA i)];rfl
 apply dK rfl (by show 0+(agI.length+1)<=(((agI.take agI.length)++([(⟨a,f.K,bm (bf prog f.K),f.N,0,0,0,0,0,0,0,false,false⟩:ai)])).map aj).length;exact ad) rfl;show AV.X 17 (List.take (agI.length+1) (List.drop 0 (((agI.take agI.length)++([(⟨a,f.K,bm (bf prog f.K),f.N,0,0,0,0,0,0,0,false,false⟩:ai)])).map aj))) false=_;rw[jW aj ((agI.take agI.length)++([(⟨a,f.K,bm (bf prog f.K),f.N,0,0,0,0,0,0,0,false,false⟩:ai)])) ad,e,cH]
def WW(c)(B)(A:c.I B)(j)(m)(l)(n):pM C0.P C0.G 42 [.ptr 0 0] (ap [(0,.box (ax c (.X 17 (c.Z.map aj) false) (.X 2 (c.Q.map a4) true) (.X 2 m j) (.X 9 n l)))]) 1 (λx h'=>x=.E []∧h'=ap [(0,.box (ax (lP c) (.X 17 ((lP c).Z.map aj) false) (.X 2 ((lP c).Q.map a4) true) (.X 2 m j) (.X 9 n l)))]):=by
 apply hZ 1 func42 rfl;let⟨W,D,G⟩:∃W:Nat,c.U.k=(W:Int)∧W<=2:=⟨c.U.k.toNat,oH (pD A.cf),oH (pD A.cf)⟩;refine cN (c.halt != 0) (λr=>?_) (λr=>?_)
 ·have g:=wM r;have e:lP c=c:=aa g;rw[e];exact de
 have g:=wN r;apply k8 (λb=>match b with|(k,d,false)=>⟨be [(0,.ptr 0 0),(7,vB (c.halt != 0)),(13,vI c.U.k),(14,vN k)],ap [(0,.box (ax d (.X 17 (d.Z.map aj) false) (.X 2 (d.Q.map a4) true) (.X 2 m j) (.X 9 n l)))],14⟩|(k,d,true)=>⟨be [(0,.ptr 0 0),(7,vB (c.halt != 0)),(13,vI c.U.k),(14,vN k)],ap [(0,.box (ax d (.X 17 (d.Z.map aj) false) (.X 2 (d.Q.map a4) true) (.X 2 m j) (.X 9 n l)))],14⟩) (λb=>match b with|(k,d,_)=>k<=W∧d.I B∧kV (W-k) d=kV W c) (λb=>W-b.1) (0,c,false) (λs=>s) (av (λs=>s) wT wH rfl) rfl (⟨aE _,A,rfl⟩);intro b y;let⟨k,d,F⟩:=b;cases F
 all_goals
  have I:k<=W:=y.1;have a:d.I B:=y.2.1;have v:kV (W-k) d=kV W c:=y.2.2;refine cN (decide ((k:Int)<c.U.k)) (λt=>?_) (λt=>?_)
  ·have C:=bj t;refine zR<|zW _ (cD aj d.Z)<|zV (vB (decide (((d.Z.length:Nat):Int)>=d.U.Z)))<|zG rfl id<|zG rfl id<|zG rfl id<|zG rfl id<|e8 rfl id (cD a4 d.Q)<|e8 rfl id (am (a6 _ _))<|zN rfl (by simp)<|zB rfl (λu=>?_) (λu=>?_)
   ·have h:((d.Z.length:Int)>=d.U.Z∨d.Q.length=0):=by have z:=u;simpa [fo]using z
    have p:lP c=kV W c:=by show(if c.halt≠0 then c else kV c.U.k.toNat c)=_;rw[dZ (λq=>q g),D];rfl
    have e:lP c=d:=by rw[p, <-v];exact Ap h
    rw[e];exact de
   have h: ¬((d.Z.length:Int)>=d.U.Z∨d.Q.length=0):=by have z:=u;simpa [fo]using z
   have J:d.Z.length<=7:=oH (pD a.cf);have H:0<d.Q.length:=oT;refine a8<|oR 16 rfl ?_;let⟨f,w⟩:=d7 d.Q 0;have o:=a.ok.ZV f (aB w);refine FO (a4 f) rfl rfl rfl (⟨dT,iH w⟩) rfl<|oR 6 rfl<|a1 rfl (VI d.Z false d.next f d.prog a.Z a.ok.Z8 o a.ok.Z5 (oH a.prog))<|oR 3 rfl<|a_ rfl<|rE 65<|qX 0 rfl<|rW _ rfl (ar (af _))<|dx 0 rfl<|a_ rfl<|qR 0 rfl<|nW _ rfl (yB (Kr a4 d.Q 1)) g7<|dx 0 rfl<|a_ rfl ?_;have E:k+1<=3:=aD oT (aC 1);refine qR 0 rfl<|zW _ (ar (bH E rfl))<|.mk _ (.refl _) ⟨(k+1,Kh d f,false),λi=>i,av _ wT wH rfl,rfl,⟨oT,CV a o ad,(CU ad (λq=>h (.inl q)) w).trans v⟩,c7⟩
  have C:=aF t;have p:lP c=kV W c:=by show(if c.halt≠0 then c else kV c.U.k.toNat c)=_;rw[dZ (λq=>q g),D];rfl
  have e:lP c=d:=by rw[p, <-v];rw[(oT:W-k=0)];rfl
  rw[e];exact de
def yX(c:Co)(i:Nat)(e:ai):(b0 c i e).Z.length=c.Z.length:=cC ..
def VG{e:ai}(h:e.ok):({e with is:=2}:ai).ok:=⟨h.K,h.A,h.N,h.value,h.next,h.V⟩
def WV{c:Co}{n i:Nat}{e:ai}(h:c.I n)(a:c.Z[i]?=some e):e.ok:=h.ok.Z8 e (aB a)
def OG{c}{n}(h:c.I n)(d:n+1<=890000)(i):(oE c i).I (n+1)∧(oE c i).Z.length=c.Z.length∧(oE c i).halt=c.halt∧(oE c i).W=c.W∧(oE c i).Q=c.Q∧(oE c i).O=c.O:=by
 have a:c.I _:=h.mono (fF _) d;unfold oE
 cases f:c.Z[i]? with
 |none=>exact⟨a,rfl,rfl,rfl,rfl,rfl⟩
 |some e=>
  have b:=WV h f;dsimp only
  repeat' split
  ·exact⟨a,rfl,rfl,rfl,rfl,rfl⟩
  ·exact⟨xA a i (Il b _),yX ..,rfl,rfl,rfl,rfl⟩
  ·exact⟨a,rfl,rfl,rfl,rfl,rfl⟩
  ·exact⟨xA a i (Il b _),yX ..,rfl,rfl,rfl,rfl⟩
  ·exact⟨xA a i (VG b),yX ..,rfl,rfl,rfl,rfl⟩
  ·exact⟨xA (sH h d 1 (dV b.V) oZ) i (VG b),yX ..,rfl,rfl,rfl,rfl⟩
  ·exact⟨a,rfl,rfl,rfl,rfl,rfl⟩
def yY{c}{n}(h:c.I n)(g:n+1<=890000)(i):(iS c i).I (n+1)∧(iS c i).Z.length=c.Z.length∧(iS c i).halt=c.halt∧(iS c i).W=c.W∧(iS c i).Q=c.Q∧(iS c i).O=c.O:=by
 have b:c.I _:=h.mono (fF _) g;unfold iS
 cases j:c.Z[i]? with
 |none=>exact⟨b,rfl,rfl,rfl,rfl,rfl⟩
 | some e=>
  have d:=WV h j;have f:=Cj h.ok.Z8 h.ok.r i;dsimp only;split
  ·exact⟨xA b i (Ik d _ _),yX ..,rfl,rfl,rfl,rfl⟩
  ·split
   ·have a:=OG (xA h i (Ik d c.mem.size (mI c.Z c.r i).1)) g i;exact⟨a.1,a.2.1.trans (yX ..),a.2.2.1,a.2.2.2.1,a.2.2.2.2.1,a.2.2.2.2.2⟩
   ·exact⟨xA b i (QG d f.1 f.2),yX ..,rfl,rfl,rfl,rfl⟩
theorem Qw{agN:Int}{busy:Bool}{kinds:List Int}{can:List Bool}:∀k,∀i∈(kA agN busy kinds can k).out,i<k
 |0,i,h=>by simp[kA]at h
 | k+1,i,h=>by
  have ih:=Qw (agN:=agN) (busy:=busy) (kinds:=kinds) (can:=can) k;unfold kA IW at h
  repeat' split at h
  all_goals first
   |exact mW (ih i h)
   |(simp[cx,uJ]at h;exact h.elim (λh=>mW (ih i h)) (λh=>by omega))
theorem VH{agN:Int}{busy:Bool}{kinds:List Int}{can:List Bool}(a:0<=agN):∀k,((kA agN busy kinds can k).out.length:Int)<=agN
 |0=>by simpa [kA]using a
 | k+1=>by
  have ih:=VH (agN:=agN) (busy:=busy) (kinds:=kinds) (can:=can) a k;unfold kA IW
  repeat' split
  all_goals first
   |exact ih
   |(simp[aU,kG];push_cast;omega)
def MQ{a}{f}{l:List a}{k}{x}(h:l[k]?=some x):(l.take (k+1)).any f=((l.take k).any f||f x):=by
 rw[bW,h,List.any_append];simp
def rH(c:Co)(k:Nat):List Int:=(c.Z.take k).map (λe=>(ak e.i.op:Int))++List.replicate (c.Z.length-k) 0
def xI(c:Co)(k:Nat):List Bool:=(List.range k).map (DN c)++List.replicate (c.Z.length-k) false
def GK{c}{k}(h:k<=c.Z.length):(rH c k).length=c.Z.length:=by unfold rH;simp;omega
def EU{c}{k}(h:k<=c.Z.length):(xI c k).length=c.Z.length:=by unfold xI;simp;omega
def w6{c}{a}{z x:c}{n k}(b:a.length=k)(d:0<n):(a++List.replicate n z).set k x=(a++[x])++List.replicate (n-1) z:=by
 subst b;obtain⟨m,rfl⟩:∃m,n=m+1:=⟨n-1,oT⟩;rw[iN _ _ (aC _),eK,List.replicate_succ,gM];simp
def GL{c}{k}{x}(a:c.Z[k]?=some x):(rH c k).set k (ak x.i.op:Int)=rH c (k+1):=by
 have b:=(Em.1 a).1;unfold rH;rw[w6 (by simp;omega) ad,bW,a,Nat.sub_sub];simp
def Kg{c}{k}(a:k<c.Z.length):(xI c k).set k (DN c k)=xI c (k+1):=by
 unfold xI;rw[w6 (by simp) ad,gZ,Nat.sub_sub];simp
def OH(c):rH c c.Z.length=Fi c:=by unfold rH Fi;simp
def Qx(c):xI c c.Z.length=Kv c:=by unfold xI Kv;simp
def LK{c}{n}(h:c.Z.length=n):List.replicate n (0:Int)=rH c 0:=by subst h;rfl
def OI{c}{n}(h:c.Z.length=n):List.replicate n false=xI c 0:=by subst h;rfl
def GM{b β}{f}{l:List b}{j}{x}{d:β}(h:l[j]?=some x):(l.drop (j+1)).foldl f (f d x)=(l.drop j).foldl f d:=by
 obtain⟨a,rfl⟩:=Em.1 h;rw[bF a];rfl
def Ao{c}{k}(e:wA c.U=true)(a: ¬c.halt≠0)(d:k=c.Z.length):∃p,h9 c.U.k ((c.Z.take k).any IE) (rH c k) (xI c k)=p∧gY c=p.foldl iS c∧(∀i∈p,i<c.Z.length)∧p.length<=2:=by
 subst d;have f:=pD e;refine⟨_,rfl,?_,λi b=>?_,?_⟩
 ·rw[OH,Qx,cH];exact dZ a
 ·have:=Qw _ i b
  rwa [EU (aC _)]at this
 have:=VH (agN:=c.U.k) (busy:=(c.Z.take c.Z.length).any IE) (kinds:=rH c c.Z.length) (can:=xI c c.Z.length) ad (xI c c.Z.length).length;unfold h9;omega
def WU(c)(v)(w:c.I v)(hb:v+3<=890000)(A B)(lo n)(b f g l)(m o)(D:A.length=lo)(u:c.Z.length=n)(hA:A.length+n+B.length<=1000):pM C0.P C0.G 41 [.ptr 0 0] (ap [(0,.box (ax c (.S 1 lo n b) (.X 2 m f) (.X 2 (c.W.map aw) g) (.X 9 o l))),(1,.arr ((A++c.Z++B).map aj) 17)]) 2 (λx h'=>x=.E []∧h'=ap [(0,.box (ax (gY c) (.S 1 lo n b) (.X 2 m f) (.X 2 ((gY c).W.map aw) g) (.X 9 o l))),(1,.arr ((A++(gY c).Z++B).map aj) 17)]):=by
 apply hI 2 func41 ?_;refine uR<|bq<|oR 5 rfl<|rV (vB (c.halt != 0)) rfl<|rE 8<|aV rfl (λK=>?_) (λK=>?_)
 ·have P:=wM K;apply FQ;have e:gY c=c:=aa P;rw[e];exact de
 refine mF<|bq<|oR 1 rfl<|rE 9<|bq<|oR 5 rfl<|rV (vN n) rfl<|e5 (x:=.S 15 0 n false) (h':=ao _ 15 (some (.arr ((List.replicate n 0).map b1) 1))) rfl rfl (Ri (fH (f:=b1) (a:=0)).symm) (⟨aG _,FG.2 ad,by show(n:Int)<=1000000;omega⟩)<|oR 1 rfl<|rE 17<|bq<|oR 5 rfl<|rV (vN n) rfl<|e5 (x:=.S 23 0 n false) (h':=ao _ 23 (some (.arr ((List.replicate n false).map ib) 1))) rfl rfl (Ri (fH (f:=ib) (a:=false)).symm) (⟨aG _,FG.2 ad,by show(n:Int)<=1000000;omega⟩)<|oR 1 rfl<|rE 25<|FP<|bq<|oR 5 rfl<|rV (vN n) rfl<|oR 1 rfl<|rE 32<|kO<|sX (κ:=Nat) (λk=>⟨be [(0,.ptr 0 0),(14,vB (c.halt != 0)),(3,.S 15 0 n false),(4,.S 23 0 n false),(33,.S 1 lo n b),(34,vN n),(2,vB ((c.Z.take k).any IE)),(35,vN k)],ap [(0,.box (ax c (.S 1 lo n b) (.X 2 m f) (.X 2 (c.W.map aw) g) (.X 9 o l))),(1,.arr ((A++c.Z++B).map aj) 17),(15,.arr ((rH c k).map b1) 1),(23,.arr ((xI c k).map ib) 1)],32⟩) (λk=>k<=n) (λk=>n-k) 0 (λs=>s) (av (λs=>s) wT ⟨c9,c9,⟨rfl,(az (λz:List Int=>some (bh.arr (z.map b1) 1)) (LK u)),rfl⟩,⟨rfl,(az (λz:List Bool=>some (bh.arr (z.map ib) 1)) (OI u)),rfl⟩,trivial⟩ rfl) rfl (aE _) ?_;intro k hk;have an:k<=n:=hk;have I:k<=1000:=oH w.Z;have ab:(rH c k).length=n:=(GK ad).trans u;have ai:(xI c k).length=n:=(EU ad).trans u;refine bq<|rW (vB (decide (k<n))) rfl (am (bz _ _))<|rE 33<|uR<|aV rfl (λL=>?_) (λL=>?_)
 ·have Q:=bj L;refine mF<|uR<|kO<|bq<|oR 1 rfl<|nW (.u 1 (lo+k) 0) rfl rfl ez ?_;let⟨x,a⟩:=d7 c.Z k;have E:=w.ok.Z8 x (aB a);refine ji (aj x) (.agg (aj x)) rfl rfl (iH (jK D a)) rfl<|e4 36 rfl rfl<|oR 1 rfl<|a_ rfl<|rE 39<|bq<|oR 4 rfl<|a1 rfl (pS x.i)<|nW (.u 15 (0+k) 0) rfl rfl ez ?_;let⟨bb,U⟩:=d7 (rH c k) k;have V:((rH c k).set k (ak x.i.op:Int))[k]?=some (ak x.i.op:Int):=aZ ad;refine nM (b1 bb) rfl rfl rfl (⟨aG _,Jv (iH U)⟩) (vX (x:=(ak x.i.op:Int)))<|rE 46<|bq<|oR 4 rfl<|fU _ rfl rfl rfl (pM.Zu (C:=C0) (show bI C0 88 [.dp 64 0 (ax c (.X 17 (List.take n (List.drop lo ((A++c.Z++B).map aj))) b) (.X 2 m f) (.X 2 (c.W.map aw) g) (.X 9 o l)),vN k] _ from by rw[tV (l:=c.Z) D (by first|exact u|(rw[cC];exact u)|(simp[cC];exact u))];exact zc c v w (.X 2 m f) (.X 2 (c.W.map aw) g) (.X 9 o l) b k ad) (by rfl) (by exact⟨⟨rfl,(r4 (r4 (r4 (r4 (r4 (r4 (r4 (r4 (r4 (r4 (r4 (r4 ⟨(by show lo+n<=((A++c.Z++B).map aj).length;simp[aH,aU,cC];omega),hD⟩))))))))))))⟩,trivial,trivial⟩) (by rfl)) ?_;rintro _ _ ⟨rfl,rfl⟩;apply nW (.u 23 (0+k) 0) rfl rfl ez;let⟨bd,W⟩:=d7 (xI c k) k;have aq:((xI c k).set k (DN c k))[k]?=some (DN c k):=aZ ad;refine nM (ib bd) rfl rfl rfl (⟨aG _,Jv (iH W)⟩) (vX)<|rE 53<|bq<|oR 2 rfl<|nW (.u 15 (0+k) 0) rfl rfl ez<|ji (b1 (ak x.i.op:Int)) (vN (ak x.i.op)) rfl rfl (Jv (iH V)) rfl<|rW (vB ((ak x.i.op)==2)) rfl (am (a6 _ _))<|oR 1 rfl<|gN rfl<|gS rfl id<|ay rfl id rfl<|bO rfl rfl rfl (λh=>h)<|rE 63<|aV rfl (λM=>?_) (λM=>?_)
  ·refine a8<|oR 1 rfl<|rE 64<|a8 ?_;have X:k+1<=1001:=aD I (aC 1);refine rW (vN (k+1)) rfl (ar (bH X rfl))<|oR 1 rfl<|rE 66<|.mk _ (.refl _) ⟨k+1,λs=>s,av _ ⟨a9,a9,a9,a9,a9,a9,⟨(dR (by rw[MQ a];have z:=M;simp_all[ic,IE])),rfl⟩,a9,trivial⟩ ⟨c9,c9,⟨rfl,(az (λz:List Int=>some (bh.arr (z.map b1) 1)) (GL a)),rfl⟩,⟨rfl,(az (λz:List Bool=>some (bh.arr (z.map ib) 1)) (Kg ad)),rfl⟩,trivial⟩ rfl,rfl,oT,c7⟩
  refine mF<|a8 ?_;have Y:k+1<=1001:=aD I (aC 1);refine rW (vN (k+1)) rfl (ar (bH Y rfl))<|oR 1 rfl<|rE 65<|.mk _ (.refl _) ⟨k+1,λs=>s,av _ ⟨a9,a9,a9,a9,a9,a9,⟨(dR (by rw[MQ a];have z:=M;simp_all[ic,IE])),rfl⟩,a9,trivial⟩ ⟨c9,c9,⟨rfl,(az (λz:List Int=>some (bh.arr (z.map b1) 1)) (GL a)),rfl⟩,⟨rfl,(az (λz:List Bool=>some (bh.arr (z.map ib) 1)) (Kg ad)),rfl⟩,trivial⟩ rfl,rfl,oT,c7⟩
 have Q:=aF L;let⟨p,hp,al,J,bu⟩:=Ao (k:=k) w.cf (λq=>q (wN K)) ad;refine Bh<| .mk _ (.step (some (15,1,(rH c k).map b1)) (e' (l:=[(0,.ptr 0 0),(14,vB (c.halt != 0)),(3,.X 1 ((rH c k).map b1) false),(4,.S 23 0 n false),(2,vB ((c.Z.take k).any IE)),(36,vB (decide (k<n)))]) (hp:=[(0,.box (ax c (.S 1 lo n b) (.X 2 m f) (.X 2 (c.W.map aw) g) (.X 9 o l))),(1,.arr ((A++c.Z++B).map aj) 17),(23,.arr ((xI c k).map ib) 1)]) rfl jr j_) (.step (some (23,1,(xI c k).map ib)) (e' (l:=[(0,.ptr 0 0),(14,vB (c.halt != 0)),(3,.X 1 ((rH c k).map b1) false),(4,.X 1 ((xI c k).map ib) false),(2,vB ((c.Z.take k).any IE)),(36,vB (decide (k<n)))]) (hp:=[(0,.box (ax c (.S 1 lo n b) (.X 2 m f) (.X 2 (c.W.map aw) g) (.X 9 o l))),(1,.arr ((A++c.Z++B).map aj) 17)]) rfl jr j_) (.refl _)))<|bq<|oR 9 rfl<|kS (x:=.X 1 (p.map RP) false) rfl (.inl rfl) ((by rw[<-hp];exact tf c.U.k ((c.Z.take k).any IE) (rH c k) (xI c k) false false (by rw[GK ad];exact w.Z) (by rw[EU ad];exact w.Z)))<|rW (vN p.length) rfl (cD RP p)<|oR 1 rfl<|rE 45<|kO<|sX (κ:=Nat×Co×Bool) (λC=>match C with|(j,d,false)=>⟨be [(0,.ptr 0 0),(14,vB (c.halt != 0)),(36,vB (decide (k<n))),(72,.X 1 (p.map RP) false),(73,vN p.length),(74,vN j)],ap [(0,.box (ax d (.S 1 lo n b) (.X 2 m f) (.X 2 (d.W.map aw) g) (.X 9 o l))),(1,.arr ((A++d.Z++B).map aj) 17)],45⟩|(j,d,true)=>⟨be [(0,.ptr 0 0),(14,vB (c.halt != 0)),(36,vB (decide (k<n))),(72,.X 1 (p.map RP) false),(73,vN p.length),(74,vN j)],ap [(0,.box (ax d (.S 1 lo n b) (.X 2 m f) (.X 2 (d.W.map aw) g) (.X 9 o l))),(1,.arr ((A++d.Z++B).map aj) 17)],45⟩) (λC=>match C with|(j,d,_)=>j<=p.length∧d.I (v+j)∧d.Z.length=n∧(p.drop j).foldl iS d=gY c) (λC=>p.length-C.1) (0,c,false) (λs=>s) (av (λs=>s) wT wH rfl) rfl (⟨aE _,w,u,al.symm⟩) ?_;intro C t;let⟨j,d,ag⟩:=C;cases ag
 ·have T:j<=p.length:=t.1;have H:j<=2:=oT;have G:d.I (v+j):=t.2.1;have r:d.Z.length=n:=t.2.2.1;have F:(p.drop j).foldl iS d=gY c:=t.2.2.2;refine bq<|rW (vB (decide (j<p.length))) rfl (am (bz _ _))<|rE 46<|uR<|aV rfl (λN=>?_) (λN=>?_)
  ·have R:=bj N;refine mF<|uR<|kO<|bq ?_;let⟨x,a⟩:=d7 p j;have E:=J x (aB a);have y:=yY G ad x;refine ji (RP x) (.dp 1 0 (RP x)) rfl rfl (iH a) rfl<|oR 2 rfl<|rE 49<|a8<|oR 2 rfl<|fU _ rfl rfl rfl ((VJ d (v+j) G x (oH E) A B lo n b f g l m o D r hA).Y3 (λz=>z)) ?_;rintro _ _ ⟨rfl,rfl⟩;refine rE 52<|a8 ?_;have Z:j+1<=3:=aD H (aC 1);refine rW (vN (j+1)) rfl (ar (bH Z rfl))<|oR 1 rfl<|rE 54<|.mk _ (.refl _) ⟨(j+1,iS d x,false),λi=>i,av _ wT ⟨⟨rfl,(az (λz:List Pt=>some (bh.box (ax (iS d x) (.S 1 lo n b) (.X 2 m f) (.X 2 (z.map aw) g) (.X 9 o l)))) y.2.2.2.1.symm),rfl⟩,⟨rfl,rfl,rfl⟩,trivial⟩ rfl,rfl,⟨oT,y.1,y.2.1.trans r,(GM a).trans F⟩,c7⟩
  have R:=aF N;apply Bh;have e:gY c=d:=by rw[<-F,cB ad];rfl
  rw[e];exact de
 have T:j<=p.length:=t.1;have H:j<=2:=oT;have G:d.I (v+j):=t.2.1;have r:d.Z.length=n:=t.2.2.1;have F:(p.drop j).foldl iS d=gY c:=t.2.2.2;refine bq<|rW (vB (decide (j<p.length))) rfl (am (bz _ _))<|rE 46<|uR<|aV rfl (λO=>?_) (λO=>?_)
 ·have S:=bj O;refine mF<|uR<|kO<|bq ?_;let⟨x,a⟩:=d7 p j;have E:=J x (aB a);have y:=yY G ad x;refine ji (RP x) (.dp 1 0 (RP x)) rfl rfl (iH a) rfl<|oR 2 rfl<|rE 49<|a8<|oR 2 rfl<|fU _ rfl rfl rfl ((VJ d (v+j) G x (oH E) A B lo n b f g l m o D r hA).Y3 (λz=>z)) ?_;rintro _ _ ⟨rfl,rfl⟩;refine rE 52<|a8 ?_;have b4:j+1<=3:=aD H (aC 1);refine rW (vN (j+1)) rfl (ar (bH b4 rfl))<|oR 1 rfl<|rE 54<|.mk _ (.refl _) ⟨(j+1,iS d x,false),λi=>i,av _ wT ⟨⟨rfl,(az (λz:List Pt=>some (bh.box (ax (iS d x) (.S 1 lo n b) (.X 2 m f) (.X 2 (z.map aw) g) (.X 9 o l)))) y.2.2.2.1.symm),rfl⟩,⟨rfl,rfl,rfl⟩,trivial⟩ rfl,rfl,⟨oT,y.1,y.2.1.trans r,(GM a).trans F⟩,c7⟩
 have S:=aF O;apply Bh;have e:gY c=d:=by rw[<-F,cB ad];rfl
 rw[e];exact de
def TX(c)(n)(t:c.I n)(h:c.Z=[])(a b d)(f g):pM C0.P C0.G 41 [.ptr 0 0] (ap [(0,.box (ax c (.X 17 [] false) (.X 2 f a) (.X 2 (c.W.map aw) b) (.X 9 g d)))]) 1 (λx h'=>x=.E []∧h'=ap [(0,.box (ax (gY c) (.X 17 [] false) (.X 2 f a) (.X 2 ((gY c).W.map aw) b) (.X 9 g d)))]):=by
 refine hZ 1 func41 rfl<|cN (c.halt != 0) (λi=>?_) (λi=>?_)
 ·have e:gY c=c:=by unfold gY Fi Kv;rw[h];split<;>rfl
  rw[e];exact de
 refine rW _ rfl (vW aj ([]:List ai) ad)<|zF (rfl) (⟨dT,dT,by show((0:Nat):Int)<=1000000;omega⟩)<|rW _ rfl (vW aj ([]:List ai) ad)<|e5 rfl rfl (rfl) (⟨dT,dT,by show((0:Nat):Int)<=1000000;omega⟩)<|lq 0 0 rfl<|FP<|qS 0 rfl<|zW _ (vW aj ([]:List ai) ad)<|sX (λk=>⟨be [(0,.ptr 0 0),(14,vB (c.halt != 0)),(3,.S 14 0 0 false),(4,.S 22 0 0 false),(33,.X 17 (([]:List ai).map aj) false),(34,vN 0),(2,vB false),(35,vN k)],ap [(0,.box (ax c (.X 17 (([]:List ai).map aj) false) (.X 2 f a) (.X 2 (c.W.map aw) b) (.X 9 g d))),(14,.arr (([]:List Int).map b1) 1),(22,.arr (([]:List Bool).map ib) 1)],31⟩) (λk=>k<=0) (λk=>0-k) 0 (λs=>s) (av (λs=>s) wT wH rfl) rfl (aE _) ?_;intro k r;have p:k<=1000:=oT;refine qS 0 rfl<|b7 (am (bz _ _)) (λl=>by exact absurd (bj l) (dG _)) (λ_=>?_);refine dh 0 rfl<| .mk _ (.step (some (14,1,([]:List Int).map b1)) (e' (l:=[(0,.ptr 0 0),(14,vB (c.halt != 0)),(3,.X 1 (([]:List Int).map b1) false),(4,.S 22 0 0 false),(2,vB false),(36,vB (decide (k<0)))]) (hp:=[(0,.box (ax c (.X 17 (([]:List ai).map aj) false) (.X 2 f a) (.X 2 (c.W.map aw) b) (.X 9 g d))),(22,.arr (([]:List Bool).map ib) 1)]) rfl jr j_) (.step (some (22,1,([]:List Bool).map ib)) (e' (l:=[(0,.ptr 0 0),(14,vB (c.halt != 0)),(3,.X 1 (([]:List Int).map b1) false),(4,.X 1 (([]:List Bool).map ib) false),(2,vB false),(36,vB (decide (k<0)))]) (hp:=[(0,.box (ax c (.X 17 (([]:List ai).map aj) false) (.X 2 f a) (.X 2 (c.W.map aw) b) (.X 9 g d)))]) rfl jr j_) (.refl _)))<|qC 0 rfl<|a1 rfl (tf c.U.k false [] [] false false dT dT)<|zW _ (vW RP ([]:List Nat) ad)<|sX (κ:=Nat) (λj=>⟨be [(0,.ptr 0 0),(14,vB (c.halt != 0)),(36,vB (decide (k<0))),(72,.X 1 (([]:List Nat).map RP) false),(73,vN 0),(74,vN j)],ap [(0,.box (ax c (.X 17 (([]:List ai).map aj) false) (.X 2 f a) (.X 2 (c.W.map aw) b) (.X 9 g d)))],44⟩) (λj=>j<=0) (λj=>0-j) 0 (λs=>s) (av (λs=>s) wT wH rfl) rfl (aE _) ?_;intro j q;have o:j<=1000:=oT;refine qS 0 rfl<|b7 (am (bz _ _)) (λm=>by exact absurd (bj m) (dG _)) (λ_=>?_);have e:gY c=c:=by unfold gY Fi Kv;rw[h];split<;>rfl
 rw[e];exact dh 0 rfl<|de
def VF(s:Nat)(c:Co)(F S T:AV)(h':AH):Prop:=
 (c.Z=[]∧h'=ap [(0,.box (ax c (.X 17 [] false) F S T))])∨
 ∃(b:Nat) (A B:List ai) (k:Bool),(b=1∧1<s∨b=s)∧A.length+c.Z.length+B.length<=1000∧h'=ap [(0,.box (ax c (.S b A.length c.Z.length k) F S T)),(b,.arr ((A++c.Z++B).map aj) 17)]
def GI{c}{R F S a T b}(d:S=a)(e:T=b):some (bh.box (ax c R F S T))=some (bh.box (ax c R F a b)):=by rw[d,e]
def fE{e}(h:e.ok):(cA e).ok:=by
 have a:(0:Nat)<=4294967295:=aE _;have b:(if wr e.i≠0 then e.value else 0)<=4294967295:=by
  split
  ·exact h.value
  ·exact a
 have c:(if e.halt=4∨e.halt=5 then e.V else 0)<=4294967295:=by
  split
  ·exact h.V
  ·exact a
 unfold cA
 repeat' split
 all_goals first
  |exact⟨h.K,h.K,a,c⟩
  |exact⟨h.K,uT _,h.value,h.V⟩
  |exact⟨h.K,uT _,b,h.V⟩
  |exact⟨h.K,uT _,b,a⟩
  |exact⟨h.K,h.next,b,a⟩
  |(refine⟨h.K,?_,?_,?_⟩<;>first|exact uT _|exact h.next|exact h.K|exact a|exact h.value|exact h.V)
def Dt{s}(h:(iJ s).isSome=true):s.store=true∧s.halt=0∧(iJ s).getD ⟨0,oZ⟩=⟨s.V,oF s.value s.size.toNat⟩:=by
 unfold iJ at h⊢;split at h
 ·cases h
 ·rename_i a;rw[dZ a];refine⟨?_,?_,rfl⟩
  ·cases b:s.store with
   |true=>rfl
   |false=>exact absurd (.inl b) a
  ·exact er λe=>a (.inr (.inl e))
def OD{s}(h:s.ok):((iJ s).getD ⟨0,oZ⟩).ok:=by
 unfold iJ;split
 ·exact⟨aE _⟩
 exact⟨h.V⟩
def Qv{r}{s}(a:∀k,r k<=4294967295)(b:s.ok)(k):lY r s k<=4294967295:=by
 unfold lY;split
 ·unfold io;split
  ·exact b.value
  exact a k
 exact a k
def OE{g}{pc next}{i}(h:g.ok)(c:sM g=true)(e:pc<=4294967295)(k:next<=4294967295):(fM g pc next i).ok∧sM (fM g pc next i)=true:=by
 let⟨b,n,j⟩:=XM.1 c;have a:∀x∈g.J++[b8 pc],x<=4294967295:=sJ h.ro (sK (uT pc));unfold fM;split
 ·have d:(2*g.Z7+(if next≠b8 pc then 1 else 0))%8<8:=aQ _ dT;refine⟨⟨?_,?_,?_,kk h.so ⟨e,k⟩,?_⟩,XM.2 ⟨?_,d,?_⟩⟩
  ·show(g.o.set _ _).length<=_;rw[cC,b];decide
  ·dsimp only;repeat' split
   ·rw[bD,aU,kG];omega
   ·rw[aU,kG];omega
   ·rw[oA];omega
   omega
  ·exact aL (Nat.le_of_lt d) dT
  ·dsimp only;repeat' split
   ·exact Iz a
   ·exact a
   ·intro x l;exact h.ro x (oC _ l)
   exact h.ro
  ·show(g.o.set _ _).length=8;rw[cC,b]
  dsimp only;repeat' split
  ·rename_i m f;rw[bD];rw[aU,kG]at f⊢;omega
  ·rename_i m f;omega
  ·rw[oA];omega
  exact j
 exact⟨h,c⟩
def mN{c}{s}(h:(iJ s).isSome=true):(fZ c s).W=c.W++[(iJ s).getD ⟨0,oZ⟩]:=by
 unfold fZ;let⟨p,hp⟩:=FH.1 h;rw[hp];rfl
def qO{c}{s}(h:(iJ s).isSome=false):(fZ c s).W=c.W:=by
 unfold fZ;have hp:iJ s=none:=sU h;rw[hp]
def Kc{s}:((iJ s).getD ⟨0,oZ⟩).data.size<=4:=by
 unfold iJ;split
 ·exact aE _
 show(oF s.value s.size.toNat).size<=4;rw[mP];omega
def sF{c}{n}{s}(h:c.I n)(g:n+1<=890000)(e:s.ok)(f:s.store=true->c.W.length<=999):(fZ c s).I (n+1):=by
 have a:(fZ c s).W.length<=1000∧(∀x∈(fZ c s).W,x.ok)∧∀x∈(fZ c s).W,x.data.size<=4:=by
  cases b:(iJ s).isSome with
  |true=>
   rw[mN b];have:=f (Dt b).1
   exact⟨by simp;omega,sJ h.ok.Z2 (sK (OD e)),λx d=>(cx.1 d).elim (h.ZM x) λd=>uJ.1 d ▸ Kc⟩
  |false=>rw[qO b];exact⟨h.Z_,h.ok.Z2,h.ZM⟩
 have i:(c.O++[s]).length<=n+1:=by have:=h.ok.ret;simp;omega
 exact⟨⟨h.ok.U,h.ok.prog,h.ok.Z5,h.ok.r,h.ok.M,h.ok.Z6,h.ok.ZV,h.ok.Z,h.ok.Z8,aL a.1 dT,a.2.1,h.ok.data,h.ok.C,qJ h.ok.Y,h.ok.a,h.ok.asked,h.ok.ZZ,h.ok.mem,h.ok.N,i,sJ h.ok.ZU (sK e)⟩,g,h.cf,h.data,h.C,h.N,h.Z,h.Z6,a.1,h.prog,h.mem,a.2.2⟩
def ET(c:Co)(agY:Nat):Co:={c with data:=(oK c agY).data,Y:=(oK c agY).Y,asked:=(oK c agY).asked}
def uY(c)(agY):ET c agY=oK c agY:=by
 unfold ET oK;generalize iQ c.data c.Y c.mem agY _=t;let⟨d,q,a⟩:=t;rfl
def Bm(d:Co)(e:ai):Co:={fZ d (cA e)with r:=lY d.r (cA e),N:=fM d.N (cA e).K (cA e).next e.i,Z:=d.Z.drop 1}
def MP(d:Co)(e:ai):Co:={ET (fZ d (cA e)) (cA e).V with r:=lY d.r (cA e),N:=fM d.N (cA e).K (cA e).next e.i,Z:=d.Z.drop 1}
def mG{d}{n}(h:d.halt≠0∨d.Z.length=0):eC n d=d:=by
 cases n with
 |zero=>rfl
 | succ n=>
  unfold eC;by_cases a:d.halt≠0
  ·exact aa a
  ·rw[dZ a,g3 (h.resolve_left a)]
def iX{d}{n}{e}(c:0<n)(h: ¬d.halt≠0)(a:d.Z[0]?=some e):eC n d=if e.is≠3 then d else if(cA e).halt≠0 then tM d (cA e)else if(cA e).store=true∧(d.W.length:Int)>=d.U.W then d else eC (n-1) (vZ d e (cA e) (d.Z.drop 1)):=by
 cases n with
 |zero=>cases c
 |succ n=>
  conv=>lhs;unfold eC
  rw[dZ h]
  cases b:d.Z with
  |nil=>rw[b]at a;cases a
  |cons y l=>rw[b]at a;injection a with a;subst a;rfl
def An{d}{e}(h: ¬ak e.i.op=3):vZ d e (cA e) (d.Z.drop 1)=Bm d e:=by
 unfold vZ vG Bm;rw[dZ h]
def Ke{d}{e}(h:ak e.i.op=3):vZ d e (cA e) (d.Z.drop 1)=MP d e:=by
 unfold vZ vG MP;rw[aa h,uY]
def Kf{d x:Co}{n}{e}(a:x.I n)(b:d.I n)(h:e.ok)(i:x.Z=d.Z):Co.I {x with r:=lY d.r (cA e),N:=fM d.N (cA e).K (cA e).next e.i,Z:=d.Z.drop 1} n:=by
 have c:=fE h;have f:=OE (i:=e.i) b.ok.N b.N c.K c.next;have g:(d.Z.drop 1).length<=1000:=by have:=b.Z;rw[bD];omega
 exact⟨⟨a.ok.U,a.ok.prog,a.ok.Z5,Qv b.ok.r c,a.ok.M,a.ok.Z6,a.ok.ZV,aL g dT,Iz b.ok.Z8,a.ok.Z_,a.ok.Z2,a.ok.data,a.ok.C,a.ok.Y,a.ok.a,a.ok.asked,a.ok.ZZ,a.ok.mem,f.1,a.ok.ret,a.ok.ZU⟩,a.nb,a.cf,a.data,a.C,f.2,g,a.Z6,a.Z_,a.prog,a.mem,a.ZM⟩
def xZ{d:Co}{n:Nat}{e:ai}(b:d.I n)(a:n+2<=890000)(c:e.ok)(f:(cA e).store=true->d.W.length<=999):(Bm d e).I (n+2):=
 Kf ((sF b ad (fE c) f).mono ad a) (b.mono ad a) c rfl
def GJ{d}{n}{e}(b:d.I n)(f:n+2<=890000)(a:e.ok)(c:(cA e).store=true->d.W.length<=999):(MP d e).I (n+2):=by
 have h:=EX (sF b ad (fE a) c) ad (fE a).V;rw[<-uY]at h;exact Kf h (b.mono ad f) a rfl
def xY{a}{A l B}{x:a}(h:l[0]?=some x):A++l++B=(A++[x])++l.drop 1++B:=by
 cases l with
 |nil=>cases h
 |cons y l=>injection h with h;subst h;simp
def Ij{a}[Inhabited a](l:List a):∃e:a,0<l.length->l[0]?=some e:=by
 cases l with
 |nil=>exact⟨default,λh=>absurd h (iI 0)⟩
 |cons y l=>exact⟨y,λ_=>rfl⟩
def GG{p}{s lo a n n'}{c}(e:lo=a)(b:n=n'):bw.Z9 p (.S s lo n (c&&true))=.Z9 p (.S s a n' c):=by rw[e,b,Bool.and_true]
instance:Inhabited ai:=⟨Cs⟩
def tJ{e}(h:(iJ (cA e)).isSome=true): ¬ak e.i.op=3:=by
 intro q;have z:=(Dt h).1;unfold cA at z;rw[q]at z;split at z<;>simp at z
def mM(d:Co)(e:ai):Co:=vG (fZ d (cA e)) e (cA e)
def Ch{d}{e}(h:ak e.i.op=3):mM d e=oK (fZ d (cA e)) (cA e).V:=by unfold mM vG;rw[aa h]
def Ci{d}{e}(h: ¬ak e.i.op=3):mM d e=fZ d (cA e):=by unfold mM vG;rw[dZ h]
def Bl(d:Co)(e:ai):Co:={fZ d (cA e)with data:=(mM d e).data,Y:=(mM d e).Y,asked:=(mM d e).asked,r:=lY d.r (cA e),N:=fM d.N (cA e).K (cA e).next e.i,Z:=d.Z.drop 1}
def Kb(d)(e):Bl d e=if ak e.i.op=3 then MP d e else Bm d e:=by
 unfold Bl;by_cases h:ak e.i.op=3
 ·rw[aa h,Ch h];rfl
 rw[dZ h,Ci h];rfl
def ES{d}{e}:vZ d e (cA e) (d.Z.drop 1)=Bl d e:=by
 rw[Kb];by_cases h:ak e.i.op=3
 ·rw[aa h,Ke h]
 rw[dZ h,An h]
def CT{d}{n}{e}(c:d.I n)(b:n+2<=890000)(f:e.ok)(a:(cA e).store=true->d.W.length<=999):(Bl d e).I (n+2):=by
 rw[Kb];split
 ·exact GJ c b f a
 exact xZ c b f a
def Qt(c)(n)(p:c.I n)(agY)(a:agY<=4294967295)(g i)(d)(k)(b)(m)(e)(o)(h j)(f)(l):pM C0.P C0.G 75 [.ptr 0 0,vU agY] (ap [(0,.box (ax c (.S 1 g i d) (.X 2 m b) (.X 2 o e) (.S 2 h j f))),(1,.arr k 17),(2,.arr l 9)]) 3 (λx h'=>x=.E []∧h'=ap [(0,.box (ax (ET c agY) (.S 1 g i d) (.X 2 m b) (.X 2 o e) (.S 2 h j f))),(1,.arr k 17),(2,.arr l 9)]):=by rw[uY];exact zd c n p agY a g i d k b m e o h j f l
def TV(c)(n)(q:c.I n)(agY)(a:agY<=4294967295)(g j)(d)(m)(b)(p)(h k)(e)(rS)(i l)(f)(o):pM C0.P C0.G 75 [.ptr 0 0,vU agY] (ap [(0,.box (ax c (.S 1 g j d) (.X 2 p b) (.S 2 h k e) (.S 3 i l f))),(1,.arr m 17),(2,.arr rS 2),(3,.arr o 9)]) 4 (λx h'=>x=.E []∧h'=ap [(0,.box (ax (ET c agY) (.S 1 g j d) (.X 2 p b) (.S 2 h k e) (.S 3 i l f))),(1,.arr m 17),(2,.arr rS 2),(3,.arr o 9)]):=by rw[uY];exact Xc c n q agY a g j d m b p h k e rS i l f o
def TW(c)(t)(hm:c.I t)(hb:t+6<=890000)(A B)(lo n)(a)(g:A.length=lo)(w:c.Z.length=n)(hA:A.length+n+B.length<=1000):pM C0.P C0.G 40 [.ptr 0 0] (ap [(0,.box (ax c (.S 1 lo n a) (.X 2 (c.Q.map a4) true) (.X 2 (c.W.map aw) true) (.X 9 (c.O.map bg) true))),(1,.arr ((A++c.Z++B).map aj) 17)]) 2 (λx h'=>x=.E []∧VF 2 (ei c) (.X 2 ((ei c).Q.map a4) true) (.X 2 ((ei c).W.map aw) false) (.X 9 ((ei c).O.map bg) false) h'):=by
 apply hZ 2 func40 rfl;let⟨W,G,bd⟩:∃W:Nat,c.U.k=(W:Int)∧W<=2:=⟨c.U.k.toNat,oH (pD hm.cf),oH (pD hm.cf)⟩;apply sX (λL=>match L with|(k,d,A,lo,n,none)=>⟨be [(0,.ptr 0 0),(11,vI c.U.k),(12,vN k)],ap [(0,.box (ax d (.S 1 lo n a) (.X 2 (d.Q.map a4) true) (.X 2 (d.W.map aw) true) (.X 9 (d.O.map bg) true))),(1,.arr ((A++d.Z++B).map aj) 17)],11⟩|(k,d,A,lo,n,some false)=>⟨be [(0,.ptr 0 0),(11,vI c.U.k),(12,vN k)],ap [(0,.box (ax d (.S 1 lo n a) (.X 2 (d.Q.map a4) true) (.X 2 (d.W.map aw) true) (.S 9 0 d.O.length false))),(1,.arr ((A++d.Z++B).map aj) 17),(9,.arr (d.O.map bg) 9)],11⟩|(k,d,A,lo,n,some true)=>⟨be [(0,.ptr 0 0),(11,vI c.U.k),(12,vN k)],ap [(0,.box (ax d (.S 1 lo n a) (.X 2 (d.Q.map a4) true) (.S 10 0 d.W.length false) (.S 9 0 d.O.length false))),(1,.arr ((A++d.Z++B).map aj) 17),(9,.arr (d.O.map bg) 9),(10,.arr (d.W.map aw) 2)],11⟩) (λL=>match L with|(k,d,A,lo,n,_)=>k<=W∧d.I (t+2*k)∧A.length=lo∧d.Z.length=n∧A.length+n+B.length<=1000∧eC (W-k) d=eC W c) (λL=>W-L.1) (0,c,A,lo,n,none) (λs=>s) (av (λs=>s) wT wH rfl) rfl (⟨aE _,hm,g,w,hA,rfl⟩);intro L v;let⟨k,d,A,lo,n,bb⟩:=L;rcases bb with _|_|_
 rotate_left 2
 ·have ak:k<=W:=v.1;have H:k<=2:=oT;have f:d.I (t+2*k):=v.2.1;have g:A.length=lo:=v.2.2.1;have w:d.Z.length=n:=v.2.2.2.1;have hA:A.length+n+B.length<=1000:=v.2.2.2.2.1;have u:eC (W-k) d=eC W c:=v.2.2.2.2.2;let⟨e,D⟩:=Ij d.Z;have an:=f.ret;have aq:=f.Z_;refine qS 0 rfl<|cN (decide ((k:Int)<c.U.k)) (λN=>?_) (λN=>?_)
  ·have X:=bj N;refine zV (vB (d.halt != 0))<|gS rfl id<|gS rfl id<|gS rfl id<|gS rfl id<|ay rfl id rfl<|ay rfl id (am (a6 _ _))<|zN rfl (by simp)<|gS rfl id<|gS rfl id<|gS rfl id<|gS rfl id<|pB rfl rfl rfl rfl (λh=>h) rfl rfl (λJ=>by refine⟨dT,FF.2 ?_⟩;have z:=J;show 0<n;simp[fo]at z;omega)<|gS rfl id<|DK (aj e) (x:=vI e.is) (g:= !(cE (d.halt != 0) true (n==0))) rfl rfl rfl rfl (λh=>h) rfl rfl (λJ=>⟨aG _,iH (jK g (D (by have z:=J;simp[fo]at z;omega)))⟩) rfl<|ay rfl id rfl<|zN rfl (by simp)<|zB rfl (λO=>?_) (λO=>?_)
   ·have j:((d.halt≠0∨n=0)∨e.is≠3):=by have z:=O;simpa [fo]using z
    apply dh 0 rfl;have o:ei c=eC (W-k) d:=by rw[u];show eC c.U.k.toNat c=_;rw[G];rfl
    have p:ei c=d:=o.trans (j.elim (λq=>mG (by rw[w];exact q)) (λq=>(Classical.em (d.halt≠0∨d.Z.length=0)).elim mG λT=>(iX ad (λq=>T (.inl q)) (D (eU λz=>T (.inr z)))).trans (aa q)));rw[p];subst g;subst w;exact Jg (.step (some (9,9,d.O.map bg)) (e' (l:=[(0,.E [])]) (hp:=[(0,.box (ax (d) (.S 1 A.length d.Z.length a) (.X 2 (d.Q.map a4) true) (.S 10 0 d.W.length false) (.X 9 (d.O.map bg) false))),(1,.arr ((A++d.Z++B).map aj) 17),(10,.arr (d.W.map aw) 2)]) rfl ⟨.refl _,trivial⟩ ⟨⟨rfl,_,rfl,fc.ZP (qQ (.refl _) (.refl _) (.refl _) (nB (by exact ad)))⟩,⟨rfl,_,rfl,.refl _⟩,⟨rfl,_,rfl,.refl _⟩,trivial⟩) (.refl _)) (some (10,2,d.W.map aw)) ⟨rfl,.inr ⟨1,A,B,a,.inl ⟨rfl,dT⟩,oT,rfl⟩⟩ (ik rfl (qQ (.refl _) (.refl _) (nB (by exact ad)) (.refl _)) (l5 rfl trivial))
   have j: ¬((d.halt≠0∨n=0)∨e.is≠3):=by have z:=O;simpa [fo]using z
   have E: ¬d.halt≠0:=λq=>j (.inl (.inl q));have al: ¬n=0:=λq=>j (.inl (.inr q));have K:0<d.Z.length:=oT;have l:=D K;have b:=f.ok.Z8 e (aB l);refine nW (.u 1 (lo+0) 0) rfl rfl (⟨dT,FF.2 (by show 0<n;exact ad)⟩)<|zX (aj e) (.agg (aj e)) rfl (iH (jK g l))<|zC (RT e b)<|cN (((cA e).halt) != 0) (λP=>?_) (λP=>?_)
   ·have y:=wM P;refine a8<|oR 7 rfl<|rV (.X 9 ([bg (cA e)]) true) rfl<|e5 (x:=.S 62 0 (d.O.length+1) false) (h':=ao (ao _ 9 none) 62 (some (.arr ((d.O++([(cA e)])).map bg) 9))) rfl rfl (iP bg d.O ([(cA e)]) ad ad) (⟨by exact ad,by exact ad,trivial⟩)<|oR 3 rfl<|dq 0 (ax d (.S 1 lo n a) (.X 2 (d.Q.map a4) true) (.S 10 0 d.W.length false) (.S 62 0 (d.O.length+1) false)) rfl rfl rfl<|rE 67<|ns 0 rfl<|dq 0 (ax ({d with halt:=(cA e).halt}:Co) (.S 1 lo n a) (.X 2 (d.Q.map a4) true) (.S 10 0 d.W.length false) (.S 62 0 (d.O.length+1) false)) rfl rfl rfl<|dx 0 rfl<|dq 0 (ax ({d with halt:=(cA e).halt}:Co) (.X 0 ([]) true) (.X 2 (d.Q.map a4) true) (.S 10 0 d.W.length false) (.S 62 0 (d.O.length+1) false)) rfl rfl rfl<|dx 0 rfl<|dq 0 (ax ({d with halt:=(cA e).halt}:Co) (.X 0 ([]) true) (.X 0 ([]) true) (.S 10 0 d.W.length false) (.S 62 0 (d.O.length+1) false)) rfl rfl rfl<|dx 0 rfl<|dq 0 (ax ({d with stop:=true,halt:=(cA e).halt}:Co) (.X 0 ([]) true) (.X 0 ([]) true) (.S 10 0 d.W.length false) (.S 62 0 (d.O.length+1) false)) rfl rfl rfl<|dc 0 rfl<|dh 0 rfl ?_;have o:ei c=eC (W-k) d:=by rw[u];show eC c.U.k.toNat c=_;rw[G];rfl
    have p:ei c=tM d (cA e):=by rw[o,iX ad E l,dZ (λq=>j (.inr q)),aa y]
    rw[p];exact Jg (.step (some (62,9,(d.O++([(cA e)])).map bg)) (e' (l:=[(0,.E [])]) (hp:=[(0,.box (ax (tM d (cA e)) (.X 0 ([]) true) (.X 0 ([]) true) (.S 10 0 d.W.length false) (.X 9 ((d.O++([(cA e)])).map bg) false))),(1,.arr ((A++d.Z++B).map aj) 17),(10,.arr (d.W.map aw) 2)]) rfl ⟨.refl _,trivial⟩ ⟨⟨rfl,_,rfl,fc.ZP (qQ (.refl _) (.refl _) (.refl _) (nB (by exact ad)))⟩,⟨rfl,_,rfl,.refl _⟩,⟨rfl,_,rfl,.refl _⟩,trivial⟩) (.refl _)) (some (10,2,d.W.map aw)) ⟨rfl,.inl a9⟩ (ik rfl (qQ (.nil 17 false) (.nil 2 true) (nB (by exact ad)) (.refl _)) trivial)
   have y:=wN P;refine zR<|zG rfl id<|zG rfl id<|zG rfl id<|zG rfl id<|e8 (x:=vN d.W.length) rfl id rfl<|zG rfl id<|zG rfl id<|zG rfl id<|zG rfl id<|zG rfl id<|e8 (x:=vB (decide (((d.W.length:Nat):Int)>=d.U.W))) rfl cn rfl<|zN rfl (λh=>h)<|zB rfl (λQ=>?_) (λQ=>?_)
   ·have m:((cA e).store=true∧(d.W.length:Int)>=d.U.W):=by have z:=Q;simpa [ic]using z
    apply dh 0 rfl;have o:ei c=eC (W-k) d:=by rw[u];show eC c.U.k.toNat c=_;rw[G];rfl
    have p:ei c=d:=by rw[o,iX ad E l,dZ (λq=>j (.inr q)),dZ (λq=>q y),aa m]
    rw[p];subst g;subst w;exact Jg (.step (some (9,9,d.O.map bg)) (e' (l:=[(0,.E [])]) (hp:=[(0,.box (ax (d) (.S 1 A.length d.Z.length a) (.X 2 (d.Q.map a4) true) (.S 10 0 d.W.length false) (.X 9 (d.O.map bg) false))),(1,.arr ((A++d.Z++B).map aj) 17),(10,.arr (d.W.map aw) 2)]) rfl ⟨.refl _,trivial⟩ ⟨⟨rfl,_,rfl,fc.ZP (qQ (.refl _) (.refl _) (.refl _) (nB (by exact ad)))⟩,⟨rfl,_,rfl,.refl _⟩,⟨rfl,_,rfl,.refl _⟩,trivial⟩) (.refl _)) (some (10,2,d.W.map aw)) ⟨rfl,.inr ⟨1,A,B,a,.inl ⟨rfl,dT⟩,oT,rfl⟩⟩ (ik rfl (qQ (.refl _) (.refl _) (nB (by exact ad)) (.refl _)) (l5 rfl trivial))
   have m: ¬((cA e).store=true∧(d.W.length:Int)>=d.U.W):=by have z:=Q;simpa [ic]using z
   have r:(cA e).store=true->d.W.length<=999:=λq=>by have:=pD f.cf;have: ¬(d.W.length:Int)>=d.U.W:=λz=>m ⟨q,z⟩;omega
   refine a8<|oR 7 rfl<|rV (.X 9 ([bg (cA e)]) true) rfl<|e5 rfl rfl (iP bg d.O ([(cA e)]) ad ad) (⟨by exact ad,by exact ad,trivial⟩)<|oR 3 rfl<|dq 0 (ax d (.S 1 lo n a) (.X 2 (d.Q.map a4) true) (.S 10 0 d.W.length false) (.S 79 0 (d.O.length+1) false)) rfl rfl rfl<|rE 84<|qX 0 rfl<|zC (LO (cA e) (fE b))<|aV rfl (λC=>?_) (λC=>?_)
   ·refine a8<|oR 7 rfl<|rV (.X 2 ([[vU (((iJ (cA e)).getD ⟨0,oZ⟩).V),.v (.string (((iJ (cA e)).getD ⟨0,oZ⟩).data))]]) true) rfl<|e5 rfl rfl (iP aw d.W ([((iJ (cA e)).getD ⟨0,oZ⟩)]) ad ad) (⟨by exact ad,by exact ad,trivial⟩)<|oR 3 rfl<|dq 0 (ax d (.S 1 lo n a) (.X 2 (d.Q.map a4) true) (.S 101 0 (d.W.length+1) false) (.S 79 0 (d.O.length+1) false)) rfl rfl rfl<|rE 106<|qX 0 rfl<|a1 rfl (pS e.i)<|b7 (am (a6 _ _)) (λag=>by exact absurd (eq_of_beq ag) (tJ C)) (λ_=>?_);refine a8<|oR 7 rfl<|a1 rfl (GQ d.r (cA e) f.ok.r (fE b))<|oR 3 rfl<|dq 0 (ax ({d with r:=lY d.r (cA e)}:Co) (.S 1 lo n a) (.X 2 (d.Q.map a4) true) (.S 101 0 (d.W.length+1) false) (.S 79 0 (d.O.length+1) false)) rfl rfl rfl<|rE 122<|jq 0 rfl<|a8<|oR 12 rfl<|a1 rfl (AZ d.N (cA e).K (cA e).next e.i f.ok.N (fE b).K (fE b).next b.A)<|oR 3 rfl<|dq 0 (ax ({d with r:=lY d.r (cA e),N:=(fM d.N (cA e).K (cA e).next e.i)}:Co) (.S 1 lo n a) (.X 2 (d.Q.map a4) true) (.S 101 0 (d.W.length+1) false) (.S 79 0 (d.O.length+1) false)) rfl rfl rfl<|rE 139<|qX 0 rfl<|nW _ rfl (GG rfl (by simp only[Option.getD];omega)) g7<|dx 0 rfl<|dq 0 (ax ({d with r:=lY d.r (cA e),N:=(fM d.N (cA e).K (cA e).next e.i)}:Co) (.S 1 (lo+1) (n-1) a) (.X 2 (d.Q.map a4) true) (.S 101 0 (d.W.length+1) false) (.S 79 0 (d.O.length+1) false)) rfl rfl rfl ?_;have b5:k+1<=3:=aD H (aC 1);refine qR 0 rfl<|zW _ (ar (bH b5 rfl))<|.mk _ (.refl _) ⟨(k+1,(Bm d e),A++[e],lo+1,n-1,some true),λi=>match i with|9=>79|10=>101|i=>i,av _ wT ⟨⟨rfl,(GI (az (λz=>AV.S 101 0 z false) (show d.W.length+1=(fZ d (cA e)).W.length from by rw[(mN C)];simp)) (az (λz=>AV.S 79 0 z false) (show d.O.length+1=(d.O++[cA e]).length from by simp))),rfl⟩,⟨rfl,(az (λz:List ai=>some (bh.arr (z.map aj) 17)) (xY l)),rfl⟩,c9,⟨rfl,(az (λz:List Pt=>some (bh.arr (z.map aw) 2)) (mN C).symm),rfl⟩,trivial⟩ rfl,rfl,⟨oT,(by have q:=xZ f ad b r;rwa [(oT:t+2*k+2=t+2*(k+1))]at q),by simp;omega,(by show(d.Z.drop 1).length=n-1;rw[bD];omega),by simp;omega,Eq.trans (by rw[iX (n:=W-k) ad E l,dZ (λq=>j (.inr q)),dZ (λq=>q y),dZ m,An (tJ C)];congr 1) u⟩,c7⟩
   skip;refine pq 0 0 rfl<|Fq (κ:=Unit) (λU=>⟨be [(0,.ptr 0 0),(11,vI c.U.k),(12,vN k),(2,.ptr 45 0),(3,.ptr 49 0)],ap [(0,.box (ax ({d with data:=(mM d e).data,Y:=(mM d e).Y,asked:=(mM d e).asked}:Co) (.S 1 lo n a) (.X 2 (d.Q.map a4) true) (.S 10 0 d.W.length false) (.S 79 0 (d.O.length+1) false))),(1,.arr ((A++d.Z++B).map aj) 17),(10,.arr (d.W.map aw) 2),(45,.box (aj e)),(49,.box (bg (cA e))),(79,.arr ((d.O++([(cA e)])).map bg) 9)],93⟩) (λU=>True) ?_ ?_
   ·refine qS 0 rfl<|a1 rfl (pS e.i)<|b7 (am (a6 _ _)) (λR=>?_) (λR=>?_)
    ·have I:=mT R;apply zH rfl ((TV (fZ d (cA e)) (t+2*k+1) (sF f ad (fE b) r) (cA e).V (fE b).V lo n a ((A++d.Z++B).map aj) true (d.Q.map a4) 0 (d.W.length) false (d.W.map aw) 0 (d.O.length+1) false ((d.O++([(cA e)])).map bg)).fB (λz=>match z with|2=>10|3=>79|z=>z));rintro _ _ ⟨rfl,rfl⟩;refine .mk _ (.refl _) ⟨(),λs=>s,av _ wT ⟨⟨rfl,(by rw[Ch I];rfl),rfl⟩,c9,c9,c9,c9,⟨rfl,rfl,rfl⟩,trivial⟩ rfl,rfl,trivial⟩
    have I:=nA R;refine .mk _ (.refl _) ⟨(),λs=>s,av _ wT ⟨⟨rfl,(by rw[Ci I];rfl),rfl⟩,c9,c9,c9,c9,c9,trivial⟩ rfl,rfl,trivial⟩
   intro U _;refine j9 0 rfl<|a8<|oR 7 rfl<|a1 rfl (GQ d.r (cA e) f.ok.r (fE b))<|oR 3 rfl<|dq 0 (ax ({d with r:=lY d.r (cA e),data:=(mM d e).data,Y:=(mM d e).Y,asked:=(mM d e).asked}:Co) (.S 1 lo n a) (.X 2 (d.Q.map a4) true) (.S 10 0 d.W.length false) (.S 79 0 (d.O.length+1) false)) rfl rfl rfl<|rE 105<|jq 0 rfl<|a8<|oR 12 rfl<|a1 rfl (AZ d.N (cA e).K (cA e).next e.i f.ok.N (fE b).K (fE b).next b.A)<|oR 3 rfl<|dq 0 (ax ({d with r:=lY d.r (cA e),data:=(mM d e).data,Y:=(mM d e).Y,asked:=(mM d e).asked,N:=(fM d.N (cA e).K (cA e).next e.i)}:Co) (.S 1 lo n a) (.X 2 (d.Q.map a4) true) (.S 10 0 d.W.length false) (.S 79 0 (d.O.length+1) false)) rfl rfl rfl<|rE 122<|qX 0 rfl<|nW _ rfl (GG rfl (by simp only[Option.getD];omega)) g7<|dx 0 rfl<|dq 0 (ax ({d with r:=lY d.r (cA e),data:=(mM d e).data,Y:=(mM d e).Y,asked:=(mM d e).asked,N:=(fM d.N (cA e).K (cA e).next e.i)}:Co) (.S 1 (lo+1) (n-1) a) (.X 2 (d.Q.map a4) true) (.S 10 0 d.W.length false) (.S 79 0 (d.O.length+1) false)) rfl rfl rfl ?_;have b6:k+1<=3:=aD H (aC 1);refine qR 0 rfl<|zW _ (ar (bH b6 rfl))<|.mk _ (.refl _) ⟨(k+1,(Bl d e),A++[e],lo+1,n-1,some true),λi=>match i with|9=>79|10=>10|i=>i,av _ wT ⟨⟨rfl,(GI (az (λz=>AV.S 10 0 z false) (show d.W.length=(fZ d (cA e)).W.length from by rw[(qO C)])) (az (λz=>AV.S 79 0 z false) (show d.O.length+1=(d.O++[cA e]).length from by simp))),rfl⟩,⟨rfl,(az (λz:List ai=>some (bh.arr (z.map aj) 17)) (xY l)),rfl⟩,c9,⟨rfl,(az (λz:List Pt=>some (bh.arr (z.map aw) 2)) (qO C).symm),rfl⟩,trivial⟩ rfl,rfl,⟨oT,(by have q:=CT f ad b r;rwa [(oT:t+2*k+2=t+2*(k+1))]at q),by simp;omega,(by show(d.Z.drop 1).length=n-1;rw[bD];omega),by simp;omega,Eq.trans (by rw[iX ad E l,dZ (λq=>j (.inr q)),dZ (λq=>q y),dZ m,ES];congr 1) u⟩,c7⟩
  have X:=aF N;have o:ei c=eC (W-k) d:=by rw[u];show eC c.U.k.toNat c=_;rw[G];rfl
  have p:ei c=d:=by rw[o,(oT:W-k=0)];rfl
  rw[p];exact dh 0 rfl<|SY rfl (.step (some (9,9,d.O.map bg)) (e' (l:=[(0,.E [])]) (hp:=[(0,.box (ax (d) (.S 1 lo n a) (.X 2 (d.Q.map a4) true) (.S 10 0 d.W.length false) (.X 9 (d.O.map bg) false))),(1,.arr ((A++d.Z++B).map aj) 17),(10,.arr (d.W.map aw) 2)]) rfl ⟨.refl _,trivial⟩ ⟨⟨rfl,_,rfl,fc.ZP (qQ (.refl _) (.refl _) (.refl _) (nB (by exact ad)))⟩,⟨rfl,_,rfl,.refl _⟩,⟨rfl,_,rfl,.refl _⟩,trivial⟩) (.step (some (10,2,d.W.map aw)) (e' (l:=[(0,.E [])]) (hp:=[(0,.box (ax (d) (.S 1 lo n a) (.X 2 (d.Q.map a4) true) (.X 2 (d.W.map aw) false) (.X 9 (d.O.map bg) false))),(1,.arr ((A++d.Z++B).map aj) 17)]) rfl ⟨.refl _,trivial⟩ ⟨⟨rfl,_,rfl,fc.ZP (qQ (.refl _) (.refl _) (nB (by exact ad)) (.refl _))⟩,⟨rfl,_,rfl,.refl _⟩,trivial⟩) (.refl _))) (σ:=λz=>z) ⟨rfl,.inr ⟨1,A,B,a,.inl ⟨rfl,dT⟩,oT,by rw[g,w]⟩⟩ rfl (qT (λz=>z) rfl rfl wH rfl)
 all_goals
  have ak:k<=W:=v.1;have H:k<=2:=oT;have f:d.I (t+2*k):=v.2.1;have g:A.length=lo:=v.2.2.1;have w:d.Z.length=n:=v.2.2.2.1;have hA:A.length+n+B.length<=1000:=v.2.2.2.2.1;have u:eC (W-k) d=eC W c:=v.2.2.2.2.2;let⟨e,D⟩:=Ij d.Z;have an:=f.ret;have aq:=f.Z_;refine qS 0 rfl<|cN (decide ((k:Int)<c.U.k)) (λV=>?_) (λV=>?_)
  ·have ab:=bj V;refine zV (vB (d.halt != 0))<|gS rfl id<|gS rfl id<|gS rfl id<|gS rfl id<|ay rfl id rfl<|ay rfl id (am (a6 _ _))<|zN rfl (by simp)<|gS rfl id<|gS rfl id<|gS rfl id<|gS rfl id<|pB rfl rfl rfl rfl (λh=>h) rfl rfl (λJ=>by refine⟨dT,FF.2 ?_⟩;have z:=J;show 0<n;simp[fo]at z;omega)<|gS rfl id<|DK (aj e) rfl rfl rfl rfl (λh=>h) rfl rfl (λJ=>⟨aG _,iH (jK g (D (by have z:=J;simp[fo]at z;omega)))⟩) rfl<|ay rfl id rfl<|zN rfl (by simp)<|zB rfl (λY=>?_) (λY=>?_)
   ·have j:((d.halt≠0∨n=0)∨e.is≠3):=by have z:=Y;simpa [fo]using z
    apply dh 0 rfl;have o:ei c=eC (W-k) d:=by rw[u];show eC c.U.k.toNat c=_;rw[G];rfl
    have p:ei c=d:=o.trans (j.elim (λq=>mG (by rw[w];exact q)) (λq=>(Classical.em (d.halt≠0∨d.Z.length=0)).elim mG λT=>(iX ad (λq=>T (.inl q)) (D (eU λz=>T (.inr z)))).trans (aa q)));rw[p];subst g;subst w
    first|exact Jg (.refl _) none ⟨rfl,.inr ⟨1,A,B,a,.inl ⟨rfl,dT⟩,oT,rfl⟩⟩ (ik rfl (qQ (.refl _) (.refl _) (.clip _ _) (.clip _ _)) (l5 rfl trivial))|exact Jg (.refl _) (some (9,9,d.O.map bg)) ⟨rfl,.inr ⟨1,A,B,a,.inl ⟨rfl,dT⟩,oT,rfl⟩⟩ (ik rfl (qQ (.refl _) (.refl _) (.clip _ _) (nB (by exact ad))) (l5 rfl trivial))
   have j: ¬((d.halt≠0∨n=0)∨e.is≠3):=by have z:=Y;simpa [fo]using z
   have E: ¬d.halt≠0:=λq=>j (.inl (.inl q));have al: ¬n=0:=λq=>j (.inl (.inr q));have K:0<d.Z.length:=oT;have l:=D K;have b:=f.ok.Z8 e (aB l);refine nW (.u 1 (lo+0) 0) rfl rfl (⟨dT,FF.2 (by show 0<n;exact ad)⟩)<|zX (aj e) (.agg (aj e)) rfl (iH (jK g l))<|zC (RT e b)<|cN (((cA e).halt) != 0) (λZ=>?_) (λZ=>?_)
   ·have F:=wM Z;refine a8<|oR 7 rfl<|rV (.X 9 ([bg (cA e)]) true) rfl ?_
    first|refine e5 rfl rfl (Au bg d.O ([(cA e)]) ad) (⟨by exact ad,by exact ad,trivial,trivial⟩) ?_|refine e5 rfl rfl (iP bg d.O ([(cA e)]) ad ad) (⟨by exact ad,by exact ad,trivial⟩) ?_
    refine oR 3 rfl<|dq 0 (ax d (.S 1 lo n a) (.X 2 (d.Q.map a4) true) (.X 2 (d.W.map aw) true) (.S 62 0 (d.O.length+1) false)) rfl rfl rfl<|rE 67<|ns 0 rfl<|dq 0 (ax ({d with halt:=(cA e).halt}:Co) (.S 1 lo n a) (.X 2 (d.Q.map a4) true) (.X 2 (d.W.map aw) true) (.S 62 0 (d.O.length+1) false)) rfl rfl rfl<|dx 0 rfl<|dq 0 (ax ({d with halt:=(cA e).halt}:Co) (.X 0 ([]) true) (.X 2 (d.Q.map a4) true) (.X 2 (d.W.map aw) true) (.S 62 0 (d.O.length+1) false)) rfl rfl rfl<|dx 0 rfl<|dq 0 (ax ({d with halt:=(cA e).halt}:Co) (.X 0 ([]) true) (.X 0 ([]) true) (.X 2 (d.W.map aw) true) (.S 62 0 (d.O.length+1) false)) rfl rfl rfl<|dx 0 rfl<|dq 0 (ax ({d with stop:=true,halt:=(cA e).halt}:Co) (.X 0 ([]) true) (.X 0 ([]) true) (.X 2 (d.W.map aw) true) (.S 62 0 (d.O.length+1) false)) rfl rfl rfl<|dc 0 rfl<|dh 0 rfl ?_;have o:ei c=eC (W-k) d:=by rw[u];show eC c.U.k.toNat c=_;rw[G];rfl
    have p:ei c=tM d (cA e):=by rw[o,iX ad E l,dZ (λq=>j (.inr q)),aa F]
    rw[p];exact Jg (.refl _) (some (62,9,(d.O++([(cA e)])).map bg)) ⟨rfl,.inl a9⟩ (ik rfl (qQ (.nil 17 false) (.nil 2 true) (.clip _ _) (nB (by exact ad))) trivial)
   have F:=wN Z;refine zR<|zG rfl id<|zG rfl id<|zG rfl id<|zG rfl id<|e8 rfl id (cD aw d.W)<|zG rfl id<|zG rfl id<|zG rfl id<|zG rfl id<|zG rfl id<|e8 rfl cn rfl<|zN rfl (λh=>h)<|zB rfl (λh4=>?_) (λh4=>?_)
   ·have m:((cA e).store=true∧(d.W.length:Int)>=d.U.W):=by have z:=h4;simpa [ic]using z
    apply dh 0 rfl;have o:ei c=eC (W-k) d:=by rw[u];show eC c.U.k.toNat c=_;rw[G];rfl
    have p:ei c=d:=by rw[o,iX ad E l,dZ (λq=>j (.inr q)),dZ (λq=>q F),aa m]
    rw[p];subst g;subst w
    first|exact Jg (.refl _) none ⟨rfl,.inr ⟨1,A,B,a,.inl ⟨rfl,dT⟩,oT,rfl⟩⟩ (ik rfl (qQ (.refl _) (.refl _) (.clip _ _) (.clip _ _)) (l5 rfl trivial))|exact Jg (.refl _) (some (9,9,d.O.map bg)) ⟨rfl,.inr ⟨1,A,B,a,.inl ⟨rfl,dT⟩,oT,rfl⟩⟩ (ik rfl (qQ (.refl _) (.refl _) (.clip _ _) (nB (by exact ad))) (l5 rfl trivial))
   have m: ¬((cA e).store=true∧(d.W.length:Int)>=d.U.W):=by have z:=h4;simpa [ic]using z
   have r:(cA e).store=true->d.W.length<=999:=λq=>by have:=pD f.cf;have: ¬(d.W.length:Int)>=d.U.W:=λz=>m ⟨q,z⟩;omega
   refine a8<|oR 7 rfl<|rV (.X 9 ([bg (cA e)]) true) rfl ?_
   first|refine e5 rfl rfl (Au bg d.O ([(cA e)]) ad) (⟨by exact ad,by exact ad,trivial,trivial⟩) ?_|refine e5 rfl rfl (iP bg d.O ([(cA e)]) ad ad) (⟨by exact ad,by exact ad,trivial⟩) ?_
   refine oR 3 rfl<|dq 0 (ax d (.S 1 lo n a) (.X 2 (d.Q.map a4) true) (.X 2 (d.W.map aw) true) (.S 79 0 (d.O.length+1) false)) rfl rfl rfl<|rE 84<|qX 0 rfl<|zC (LO (cA e) (fE b))<|aV rfl (λM=>?_) (λM=>?_)
   ·refine a8<|oR 7 rfl<|rV (.X 2 ([[vU (((iJ (cA e)).getD ⟨0,oZ⟩).V),.v (.string (((iJ (cA e)).getD ⟨0,oZ⟩).data))]]) true) rfl<|e5 rfl rfl (Au aw d.W ([((iJ (cA e)).getD ⟨0,oZ⟩)]) ad) (⟨by exact ad,by exact ad,trivial,trivial⟩)<|oR 3 rfl<|dq 0 (ax d (.S 1 lo n a) (.X 2 (d.Q.map a4) true) (.S 101 0 (d.W.length+1) false) (.S 79 0 (d.O.length+1) false)) rfl rfl rfl<|rE 106<|qX 0 rfl<|a1 rfl (pS e.i)<|b7 (am (a6 _ _)) (λh6=>by exact absurd (eq_of_beq h6) (tJ M)) (λ_=>?_);refine a8<|oR 7 rfl<|a1 rfl (GQ d.r (cA e) f.ok.r (fE b))<|oR 3 rfl<|dq 0 (ax ({d with r:=lY d.r (cA e)}:Co) (.S 1 lo n a) (.X 2 (d.Q.map a4) true) (.S 101 0 (d.W.length+1) false) (.S 79 0 (d.O.length+1) false)) rfl rfl rfl<|rE 122<|jq 0 rfl<|a8<|oR 12 rfl<|a1 rfl (AZ d.N (cA e).K (cA e).next e.i f.ok.N (fE b).K (fE b).next b.A)<|oR 3 rfl<|dq 0 (ax ({d with r:=lY d.r (cA e),N:=(fM d.N (cA e).K (cA e).next e.i)}:Co) (.S 1 lo n a) (.X 2 (d.Q.map a4) true) (.S 101 0 (d.W.length+1) false) (.S 79 0 (d.O.length+1) false)) rfl rfl rfl<|rE 139<|qX 0 rfl<|nW _ rfl (GG rfl (by simp only[Option.getD];omega)) g7<|dx 0 rfl<|dq 0 (ax ({d with r:=lY d.r (cA e),N:=(fM d.N (cA e).K (cA e).next e.i)}:Co) (.S 1 (lo+1) (n-1) a) (.X 2 (d.Q.map a4) true) (.S 101 0 (d.W.length+1) false) (.S 79 0 (d.O.length+1) false)) rfl rfl rfl ?_;have b1:k+1<=3:=aD H (aC 1);refine qR 0 rfl<|zW _ (ar (bH b1 rfl))<|.mk _ (.refl _) ⟨(k+1,(Bm d e),A++[e],lo+1,n-1,some true),λi=>match i with|9=>79|10=>101|i=>i,av _ wT ⟨⟨rfl,(GI (az (λz=>AV.S 101 0 z false) (show d.W.length+1=(fZ d (cA e)).W.length from by rw[(mN M)];simp)) (az (λz=>AV.S 79 0 z false) (show d.O.length+1=(d.O++[cA e]).length from by simp))),rfl⟩,⟨rfl,(az (λz:List ai=>some (bh.arr (z.map aj) 17)) (xY l)),rfl⟩,c9,⟨rfl,(az (λz:List Pt=>some (bh.arr (z.map aw) 2)) (mN M).symm),rfl⟩,trivial⟩ rfl,rfl,⟨oT,(by have q:=xZ f ad b r;rwa [(oT:t+2*k+2=t+2*(k+1))]at q),by simp;omega,(by show(d.Z.drop 1).length=n-1;rw[bD];omega),by simp;omega,Eq.trans (by rw[iX (n:=W-k) ad E l,dZ (λq=>j (.inr q)),dZ (λq=>q F),dZ m,An (tJ M)];congr 1) u⟩,c7⟩
   skip;refine pq 0 0 rfl<|Fq (κ:=Unit) (λU=>⟨be [(0,.ptr 0 0),(11,vI c.U.k),(12,vN k),(2,.ptr 45 0),(3,.ptr 49 0)],ap [(0,.box (ax ({d with data:=(mM d e).data,Y:=(mM d e).Y,asked:=(mM d e).asked}:Co) (.S 1 lo n a) (.X 2 (d.Q.map a4) true) (.X 2 (d.W.map aw) true) (.S 79 0 (d.O.length+1) false))),(1,.arr ((A++d.Z++B).map aj) 17),(45,.box (aj e)),(49,.box (bg (cA e))),(79,.arr ((d.O++([(cA e)])).map bg) 9)],93⟩) (λU=>True) ?_ ?_
   ·refine qS 0 rfl<|a1 rfl (pS e.i)<|b7 (am (a6 _ _)) (λh7=>?_) (λh7=>?_)
    ·have S:=mT h7;apply zH rfl ((Qt (fZ d (cA e)) (t+2*k+1) (sF f ad (fE b) r) (cA e).V (fE b).V lo n a ((A++d.Z++B).map aj) true (d.Q.map a4) true (d.W.map aw) 0 (d.O.length+1) false ((d.O++([(cA e)])).map bg)).fB (λz=>match z with|2=>79|z=>z));rintro _ _ ⟨rfl,rfl⟩;refine .mk _ (.refl _) ⟨(),λs=>s,av _ wT ⟨⟨rfl,(by rw[Ch S];rfl),rfl⟩,c9,c9,c9,⟨rfl,rfl,rfl⟩,trivial⟩ rfl,rfl,trivial⟩
    have S:=nA h7;refine .mk _ (.refl _) ⟨(),λs=>s,av _ wT ⟨⟨rfl,(by rw[Ci S];rfl),rfl⟩,c9,c9,c9,c9,trivial⟩ rfl,rfl,trivial⟩
   intro U _;refine j9 0 rfl<|a8<|oR 7 rfl<|a1 rfl (GQ d.r (cA e) f.ok.r (fE b))<|oR 3 rfl<|dq 0 (ax ({d with r:=lY d.r (cA e),data:=(mM d e).data,Y:=(mM d e).Y,asked:=(mM d e).asked}:Co) (.S 1 lo n a) (.X 2 (d.Q.map a4) true) (.X 2 (d.W.map aw) true) (.S 79 0 (d.O.length+1) false)) rfl rfl rfl<|rE 105<|jq 0 rfl<|a8<|oR 12 rfl<|a1 rfl (AZ d.N (cA e).K (cA e).next e.i f.ok.N (fE b).K (fE b).next b.A)<|oR 3 rfl<|dq 0 (ax ({d with r:=lY d.r (cA e),data:=(mM d e).data,Y:=(mM d e).Y,asked:=(mM d e).asked,N:=(fM d.N (cA e).K (cA e).next e.i)}:Co) (.S 1 lo n a) (.X 2 (d.Q.map a4) true) (.X 2 (d.W.map aw) true) (.S 79 0 (d.O.length+1) false)) rfl rfl rfl<|rE 122<|qX 0 rfl<|nW _ rfl (GG rfl (by simp only[Option.getD];omega)) g7<|dx 0 rfl<|dq 0 (ax ({d with r:=lY d.r (cA e),data:=(mM d e).data,Y:=(mM d e).Y,asked:=(mM d e).asked,N:=(fM d.N (cA e).K (cA e).next e.i)}:Co) (.S 1 (lo+1) (n-1) a) (.X 2 (d.Q.map a4) true) (.X 2 (d.W.map aw) true) (.S 79 0 (d.O.length+1) false)) rfl rfl rfl ?_;have b2:k+1<=3:=aD H (aC 1);refine qR 0 rfl<|zW _ (ar (bH b2 rfl))<|.mk _ (.refl _) ⟨(k+1,(Bl d e),A++[e],lo+1,n-1,some false),λi=>match i with|9=>79|i=>i,av _ wT ⟨⟨rfl,(GI (az (λz:List Pt=>AV.X 2 (z.map aw) true) (show d.W=(fZ d (cA e)).W from(qO M).symm)) (az (λz=>AV.S 79 0 z false) (show d.O.length+1=(d.O++[cA e]).length from by simp))),rfl⟩,⟨rfl,(az (λz:List ai=>some (bh.arr (z.map aj) 17)) (xY l)),rfl⟩,c9,trivial⟩ rfl,rfl,⟨oT,(by have q:=CT f ad b r;rwa [(oT:t+2*k+2=t+2*(k+1))]at q),by simp;omega,(by show(d.Z.drop 1).length=n-1;rw[bD];omega),by simp;omega,Eq.trans (by rw[iX ad E l,dZ (λq=>j (.inr q)),dZ (λq=>q F),dZ m,ES];congr 1) u⟩,c7⟩
  have ab:=aF V;have o:ei c=eC (W-k) d:=by rw[u];show eC c.U.k.toNat c=_;rw[G];rfl
  have p:ei c=d:=by rw[o,(oT:W-k=0)];rfl
  rw[p];apply dh 0 rfl
  first|exact SY rfl (.step none (e' (l:=[(0,.E [])]) (hp:=[(0,.box (ax (d) (.S 1 lo n a) (.X 2 (d.Q.map a4) true) (.X 2 (d.W.map aw) false) (.X 9 (d.O.map bg) false))),(1,.arr ((A++d.Z++B).map aj) 17)]) trivial ⟨.refl _,trivial⟩ ⟨⟨trivial,_,rfl,fc.ZP (qQ (.refl _) (.refl _) (.clip _ _) (.clip _ _))⟩,⟨trivial,_,rfl,.refl _⟩,trivial⟩) (.refl _)) (r:=.E []) (h':=ap [(0,.box (ax (d) (.S 1 lo n a) (.X 2 (d.Q.map a4) true) (.X 2 (d.W.map aw) false) (.X 9 (d.O.map bg) false))),(1,.arr ((A++d.Z++B).map aj) 17)]) (σ:=λz=>z) ⟨rfl,.inr ⟨1,A,B,a,.inl ⟨rfl,dT⟩,oT,by rw[g,w]⟩⟩ rfl (qT (λz=>z) rfl rfl wH rfl)|exact SY (rs:=[]) rfl (.step (some (9,9,d.O.map bg)) (e' (l:=[(0,.E [])]) (hp:=[(0,.box (ax (d) (.S 1 lo n a) (.X 2 (d.Q.map a4) true) (.X 2 (d.W.map aw) true) (.X 9 (d.O.map bg) false))),(1,.arr ((A++d.Z++B).map aj) 17)]) rfl ⟨.refl _,trivial⟩ ⟨⟨rfl,_,rfl,fc.ZP (qQ (.refl _) (.refl _) (.refl _) (nB (by exact ad)))⟩,⟨rfl,_,rfl,.refl _⟩,trivial⟩) (.step none (e' (l:=[(0,.E [])]) (hp:=[(0,.box (ax (d) (.S 1 lo n a) (.X 2 (d.Q.map a4) true) (.X 2 (d.W.map aw) false) (.X 9 (d.O.map bg) false))),(1,.arr ((A++d.Z++B).map aj) 17)]) trivial ⟨.refl _,trivial⟩ ⟨⟨trivial,_,rfl,fc.ZP (qQ (.refl _) (.refl _) (.clip _ _) (.refl _))⟩,⟨trivial,_,rfl,.refl _⟩,trivial⟩) (.refl _))) (σ:=λz=>z) ⟨rfl,.inr ⟨1,A,B,a,.inl ⟨rfl,dT⟩,oT,by rw[g,w]⟩⟩ rfl (qT (λz=>z) rfl rfl wH rfl)
def Qu(c)(g)(j:c.I g)(a:c.Z=[]):pM C0.P C0.G 40 [.ptr 0 0] (ap [(0,.box (ax c (.X 17 [] false) (.X 2 (c.Q.map a4) true) (.X 2 (c.W.map aw) true) (.X 9 (c.O.map bg) true)))]) 1 (λx h'=>x=.E []∧VF 1 (ei c) (.X 2 ((ei c).Q.map a4) true) (.X 2 ((ei c).W.map aw) false) (.X 9 ((ei c).O.map bg) false) h'):=by
 refine hZ 1 func40 rfl<|k8 (κ:=Nat) (λk=>⟨be [(0,.ptr 0 0),(11,vI c.U.k),(12,vN k)],ap [(0,.box (ax c (.X 17 (([]:List ai).map aj) false) (.X 2 (c.Q.map a4) true) (.X 2 (c.W.map aw) true) (.X 9 (c.O.map bg) true)))],8⟩) (λk=>k<=2) (λk=>2-k) 0 (λs=>s) (av (λs=>s) wT wH rfl) rfl (aE _) ?_;intro k i;refine cN (decide ((k:Int)<c.U.k)) (λb=>?_) (λb=>?_)
 ·refine zV (vB (c.halt != 0))<|gS rfl id<|gS rfl id<|gS rfl id<|gS rfl id<|ay rfl id (vW aj ([]:List ai) ad)<|ay rfl id (am (a6 _ _))<|zN rfl (by simp)<|gS rfl id<|gS rfl id<|gS rfl id<|gS rfl id<|DK (aj Cs) rfl rfl rfl rfl (λh=>h) rfl rfl (λf=>(by have z:=f;simp[fo]at z)) rfl<|gS rfl id<|gS rfl id<|ay rfl id rfl<|zN rfl (by simp)<|zB rfl (λ_=>?_) (λd=>by simp[fo]at d);have e:ei c=c:=mG (.inr (by rw[a];rfl));rw[e];exact Jg (.refl _) none ⟨rfl,.inl ⟨a,rfl⟩⟩ (ik rfl (qQ (.refl _) (.refl _) (.clip _ _) (.clip _ _)) trivial)
 have e:ei c=c:=mG (.inr (by rw[a];rfl));rw[e];exact SY rfl (.step none (e' (l:=[(0,.E [])]) (hp:=[(0,.box (ax (c) (.X 17 (([]:List ai).map aj) false) (.X 2 (c.Q.map a4) true) (.X 2 (c.W.map aw) false) (.X 9 (c.O.map bg) false)))]) trivial ⟨.refl _,trivial⟩ ⟨⟨trivial,_,rfl,fc.ZP (qQ (.refl _) (.refl _) (.clip _ _) (.clip _ _))⟩,trivial⟩) (.refl _)) (σ:=λz=>z) ⟨rfl,.inl ⟨a,rfl⟩⟩ rfl (qT (λz=>z) rfl rfl wH rfl)
def oY{a:Type}(f:a->a)(l:List a)(k:Nat):List a:=(l.take k).map f++l.drop k
def p8{a}{f}{l:List a}{k}:(oY f l k).length=l.length:=by unfold oY;simp;omega
def EQ{a}{f}{l:List a}{k}(h:l.length<=k):oY f l k=l.map f:=by
 unfold oY;rw[aN h,cB h,dY]
def TU{b}{f}{l:List b}{k}:(oY f l k)[k]?=l[k]? :=by
 unfold oY;rcases fk k l.length with h|h
 ·have a:((l.take k).map f).length=k:=by rw[aH,aM];omega
  rw[bM ad,a,eK,cL,iU]
 rw[cB h,dY,bE (by simp;omega),bE h]
def Cg{c}{f}{l}{k}{x:c}(h:(oY f l k)[k]?=some x):(oY f l k).set k (f x)=oY f l (k+1):=by
 rw[TU]at h;obtain⟨a,rfl⟩:=Em.1 h;have b:((l.take k).map f).length=k:=by rw[aH,aM];omega
 unfold oY;rw[bF a,iN _ _ ad,b,eK,gM,bW,aA a,dH,eD];rfl
def OC{c}{f}{l}{k}{x:c}(h:(oY f l k)[k]?=some x)(a:f x=x):oY f l k=oY f l (k+1):=by
 rw[<-Cg h,a];obtain⟨b,rfl⟩:=Em.1 h;exact(List.set_getElem_self b).symm
def Ii{c}{P:c->Prop}{f}{l}(a:∀x,P x->P (f x))(h:∀x∈l,P x)(k):∀x∈oY f l k,P x:=by
 intro x hx;rcases cx.1 hx with hx|hx
 ·obtain⟨y,b,rfl⟩:=pG.1 hx;exact a y (h y (cQ b))
 exact h x (eT hx)
def Qr{e}(h:e.ok){b}(c:b<=4294967295):(uF e b).ok:=by
 have a:kY b (a' e.i.op)<=4294967295:=by
  unfold kY;have:=Fo (oF b (a' e.i.op)) (by rw[mP];exact (lQ e.i.op));omega
 unfold uF;split
 ·exact h
 exact⟨h.K,h.A,h.N,a,h.next,h.V⟩
def CS{r}{l}{j}{x}(a:l[j]?=some x)(h: ¬ak x.i.op=4):e6 r l j=l:=by unfold e6;rw[a];exact dZ h
def qp{r}{l}{j}{x}(a:l[j]?=some x)(h:(lK l r j x.i.x).isSome=false):e6 r l j=l:=by
 unfold e6;rw[a];dsimp only;split
 ·rw[(sU h:lK l r j x.i.x=none)]
 rfl
def Am{r}{l}{j}{x}(d:l[j]?=some x)(c:ak x.i.op=4)(h:(lK l r j x.i.x).isSome=true):e6 r l j=l.set j (uF x ((lK l r j x.i.x).getD 0)):=by
 unfold e6;rw[d];dsimp only;rw[aa c];let⟨b,a⟩:=FH.1 h;rw[a];rfl
def J_(r)(l)(j):(e6 r l j).length=l.length:=by
 unfold e6;repeat' split
 all_goals simp
theorem Ds{r:Nat->Nat}{l:List ai}:∀{k:Nat},(bt r l k).length=l.length
 |0=>rfl
 |k+1=>(J_ ..).trans Ds
theorem kq{r:Nat->Nat}{l:List ai}(h:∀x∈l,x.ok)(d:∀k,r k<=4294967295):∀k,∀x∈bt r l k,x.ok
 |0=>h
 | k+1=>by
  have ih:=kq h d k;show ∀x∈e6 r (bt r l k) k,x.ok
  cases a:(bt r l k)[k]? with
  |none=>unfold e6;rw[a];exact ih
  | some x=>
   by_cases b:ak x.i.op=4
   ·cases c:(lK (bt r l k) r k x.i.x).isSome with
    |true=>rw[Am a b c];exact kk (P:=ai.ok) ih (Qr (ih x (aB a)) (Ck ih d _ _))
    |false=>rw[qp a c];exact ih
   ·rw[CS a b];exact ih
def tI{l:List ai}(h:∀x∈l,x.ok):∀x∈l.map a0,x.ok:=by
 intro x a;obtain⟨y,b,rfl⟩:=pG.1 a;exact QH (h y b)
def nN(c):(br c).length=c.Z.length:=by unfold br;rw[Ds,aH]
def vV{c:Co}{n:Nat}(h:c.I n):∀x∈br c,x.ok:=kq (tI h.ok.Z8) h.ok.r _
def ER{l:List ai}{i:Nat}(h:yD l=some i):i<l.length:=(List.findIdx?_eq_some_iff_getElem.1 h).1
def MO{l}{i}(h:i<l.length):(dl l i).length=i+1:=by
 unfold dl;rw[aA h];simp;omega
def WS{l}{i}(h:∀x∈l,x.ok):∀x∈dl l i,x.ok:=by
 unfold dl
 cases b:l[i]? with
 |none=>exact h
 |some e=>
  have a:=h e (aB b);exact sJ (zD h) (sK ⟨a.K,a.A,a.next,a.value,a.next,a.V⟩)
def Qs{c}{A l B:List c}{lo n}(a:A.length=lo)(b:l.length=n):((A++l++B).drop lo).take n=l:=by
 subst a b;rw[eD,List.drop_left,List.take_left]
def GE{c}(a: ¬c.halt≠0)(h:yD (br c)=none):kK c={c with Z:=br c}:=by
 unfold kK;rw[dZ a,h]
def GF{c}{i}{x}(a: ¬c.halt≠0)(h:yD (br c)=some i)(b:(br c)[i]?=some x):kK c={c with Z:=dl (br c) i,M:=x.next,Q:=[],stop:=false}:=by
 unfold kK;rw[dZ a,h];dsimp only;rw[b]
def Ka{c}(h:c.Z=[]):kK c=c:=by
 unfold kK br;rw[h];split
 ·rfl
 show {c with Z:=[]}=c;rw[<-h]
def LJ{c}{n}(h:c.I n):(kK c).I n:=by
 have g:=nN c;have d:=vV h;by_cases a:c.halt≠0
 ·rwa[show kK c=c from aa a]
 ·cases e:yD (br c)with
  |none=>
   rw[GE a e]
   exact⟨⟨h.ok.U,h.ok.prog,h.ok.Z5,h.ok.r,h.ok.M,h.ok.Z6,h.ok.ZV,by rw[g];exact h.ok.Z,d,h.ok.Z_,h.ok.Z2,h.ok.data,h.ok.C,h.ok.Y,h.ok.a,h.ok.asked,h.ok.ZZ,h.ok.mem,h.ok.N,h.ok.ret,h.ok.ZU⟩,h.nb,h.cf,h.data,h.C,h.N,by rw[g];exact h.Z,h.Z6,h.Z_,h.prog,h.mem,h.ZM⟩
  |some i=>
   have b:=ER e;have j:=aA b;have f:=MO b;have k:=h.Z;rw[GF a e j];exact⟨⟨h.ok.U,h.ok.prog,h.ok.Z5,h.ok.r,(d _ (jO b)).next,aE _,nofun,by show(dl _ _).length<=_;rw[f];omega,WS d,h.ok.Z_,h.ok.Z2,h.ok.data,h.ok.C,h.ok.Y,h.ok.a,h.ok.asked,h.ok.ZZ,h.ok.mem,h.ok.N,h.ok.ret,h.ok.ZU⟩,h.nb,h.cf,h.data,h.C,h.N,by show(dl _ _).length<=_;rw[f];omega,aE _,h.Z_,h.prog,h.mem,h.ZM⟩
def WP(c)(R)(b:c.I R)(A B)(lo n)(d)(a:A.length=lo)(f:c.Z.length=n)(hA:A.length+n+B.length<=1000)(S:∀x∈A,x.ok)(T:∀x∈B,x.ok)(J:yD (br c)=none)(m o)(p r):pM C0.P C0.G 39 [.ptr 0 0] (ap [(0,.box (ax c (.S 1 lo n d) (.X 2 (c.Q.map a4) true) (.X 2 p m) (.X 9 r o))),(1,.arr ((A++c.Z++B).map aj) 17)]) 2 (λx h'=>x=.E []∧VF 2 (kK c) (.X 2 ((kK c).Q.map a4) true) (.X 2 p m) (.X 9 r o) h'):=by
 refine hZ 2 func39 rfl<|cN (c.halt != 0) (λv=>?_) (λv=>?_)
 ·have E:=wM v;have u:kK c=c:=aa E;rw[u];exact BH rfl ⟨rfl,.inr ⟨1,A,B,d,.inl ⟨rfl,dT⟩,(oT:A.length+(c.Z).length+B.length<=1000),(by show _=ap [(0,.box (ax (c) (.S 1 A.length (c.Z).length d) _ _ _)),_];rw[a,f])⟩⟩ rfl (ah (λz=>z) rfl rfl wH rfl)
 refine zV (vN n)<|k8 (λk=>⟨be [(0,.ptr 0 0),(16,vB (c.halt != 0)),(21,.S 1 lo n d),(22,vN n),(23,vN k)],ap [(0,.box (ax c (.S 1 lo n d) (.X 2 (c.Q.map a4) true) (.X 2 p m) (.X 9 r o))),(1,.arr ((A++(oY a0 c.Z k)++B).map aj) 17)],15⟩) (λk=>k<=n) (λk=>n-k) 0 (λs=>s) (av (λs=>s) wT wH rfl) rfl (aE _) ?_;intro k Q;have V:k<=n:=Q;have I:k<=1000:=oH b.Z;have W:(oY a0 c.Z k).length=n:=p8.trans f;refine b7 (am (bz _ _)) (λw=>?_) (λw=>?_)
 ·have F:=bj w;apply nW (.u 1 (lo+k) 0) rfl rfl ez;let⟨x,e⟩:=d7 (oY a0 c.Z k) k;have l:=(Ii (λx h=>QH h) b.ok.Z8 k) x (aB e);refine zX (aj x) (.agg (aj x)) rfl (iH (jK a e))<|a8<|oR 7 rfl<|a1 rfl (uc x l)<|nW (.u 1 (lo+k) 0) rfl rfl ez ?_;have Y:((oY a0 c.Z k).set k (a0 x))[k]?=some (a0 x):=aZ ad;refine nM (aj x) rfl rfl rfl (⟨aG _,iH ((jK a e))⟩) (uL a ad)<|rE 32 ?_;have K:k+1<=1001:=aD I (aC 1);refine qX 0 rfl<|zW _ (ar (bH K rfl))<|.mk _ (.refl _) ⟨k+1,λs=>s,av _ wT ⟨c9,⟨rfl,(az (λz:List ai=>some (bh.arr ((A++z++B).map aj) 17)) (Cg e)),rfl⟩,trivial⟩ rfl,rfl,oT,c7⟩
 have F:=aF w;refine zV (vN n)<|k8 (λj=>⟨be [(0,.ptr 0 0),(16,vB (c.halt != 0)),(24,vB (decide (k<n))),(42,.S 1 lo n d),(43,vN n),(44,vN j)],ap [(0,.box (ax c (.S 1 lo n d) (.X 2 (c.Q.map a4) true) (.X 2 p m) (.X 9 r o))),(1,.arr ((A++(bt c.r (c.Z.map a0) j)++B).map aj) 17)],23⟩) (λj=>j<=n) (λj=>n-j) 0 (λs=>s) (av (λs=>s) wT ⟨c9,⟨rfl,(az (λz:List ai=>some (bh.arr ((A++z++B).map aj) 17)) (EQ ad)),rfl⟩,trivial⟩ rfl) rfl (aE _) ?_;intro j P;have U:j<=n:=P;have i:j<=1000:=oH b.Z;have X:(bt c.r (c.Z.map a0) j).length=n:=Ds.trans ((aH ..).trans f);refine b7 (am (bz _ _)) (λy=>?_) (λy=>?_)
 ·have G:=bj y;apply nW (.u 1 (lo+j) 0) rfl rfl ez;let⟨x,e⟩:=d7 (bt c.r (c.Z.map a0) j) j;have l:=(kq (tI b.ok.Z8) b.ok.r j) x (aB e);refine zX (aj x) (.agg (aj x)) rfl (iH (jK a e))<|a1 rfl (pS x.i)<|b7 (am (db _ _)) (λC=>?_) (λC=>?_)
  ·have g:=wM C;have L:j+1<=1001:=aD i (aC 1);refine zW _ (ar (bH L rfl))<|.mk _ (.refl _) ⟨j+1,λs=>s,av _ wT ⟨c9,⟨rfl,(az (λz:List ai=>some (bh.arr ((A++z++B).map aj) 17)) (show bt c.r (c.Z.map a0) j=bt c.r (c.Z.map a0) (j+1)from(CS e g).symm)),rfl⟩,trivial⟩ rfl,rfl,oT,c7⟩
  have g:=wN C;refine zC (Fs x.i)<|zR<|zL (x:=.E [vU ((lK (bt c.r (c.Z.map a0) j) c.r j x.i.x).getD 0),vB ((lK (bt c.r (c.Z.map a0) j) c.r j x.i.x).isSome)]) rfl (.inr ⟨rfl,⟨(by show lo+n<=((A++(bt c.r (c.Z.map a0) j)++B).map aj).length;exact ad),hD,trivial,trivial,trivial⟩⟩) ((show bI C0 80 [.X 17 (List.take n (List.drop lo ((A++(bt c.r (c.Z.map a0) j)++B).map aj))) d,.agg (Ks c.r),vN j,vI x.i.x] _ from by rw[tV (l:=bt c.r (c.Z.map a0) j) a (by first|assumption|exact f)];exact Kl (bt c.r (c.Z.map a0) j) c.r d j x.i.x (oH b.Z) (kq (tI b.ok.Z8) b.ok.r j) b.ok.r (oH b.Z)))<|aV rfl (λD=>?_) (λD=>?_)
  ·refine a8<|oR 8 rfl<|a1 rfl (RS x ((lK (bt c.r (c.Z.map a0) j) c.r j x.i.x).getD 0) l (Ck (kq (tI b.ok.Z8) b.ok.r j) b.ok.r j x.i.x))<|nW (.u 1 (lo+j) 0) rfl rfl ez ?_;have Z:((bt c.r (c.Z.map a0) j).set j (uF x ((lK (bt c.r (c.Z.map a0) j) c.r j x.i.x).getD 0)))[j]?=some (uF x ((lK (bt c.r (c.Z.map a0) j) c.r j x.i.x).getD 0)):=aZ ad;refine nM (aj x) (h':=ao _ 1 (some (.arr ((A++((bt c.r (c.Z.map a0) j).set j (uF x ((lK (bt c.r (c.Z.map a0) j) c.r j x.i.x).getD 0)))++B).map aj) 17))) rfl rfl rfl (⟨aG _,iH ((jK a e))⟩) (uL (f:=aj) (x:=(uF x ((lK (bt c.r (c.Z.map a0) j) c.r j x.i.x).getD 0))) (l:=bt c.r (c.Z.map a0) j) (i:=j) a ad)<|rE 72 ?_;have M:j+1<=1001:=aD i (aC 1);refine qX 0 rfl<|zW _ (ar (bH M rfl))<|.mk _ (.refl _) ⟨j+1,λs=>s,av _ wT ⟨c9,⟨rfl,(az (λz:List ai=>some (bh.arr ((A++z++B).map aj) 17)) (show(bt c.r (c.Z.map a0) j).set j (uF x ((lK (bt c.r (c.Z.map a0) j) c.r j x.i.x).getD 0))=bt c.r (c.Z.map a0) (j+1)from(Am e (g) D).symm)),rfl⟩,trivial⟩ rfl,rfl,oT,c7⟩
  skip
  have N:j+1<=1001:=aD i (aC 1);refine qC 0 rfl<|zW _ (ar (bH N rfl))<|.mk _ (.refl _) ⟨j+1,λs=>s,av _ wT ⟨c9,⟨rfl,(az (λz:List ai=>some (bh.arr ((A++z++B).map aj) 17)) (show bt c.r (c.Z.map a0) j=bt c.r (c.Z.map a0) (j+1)from(qp e D).symm)),rfl⟩,trivial⟩ rfl,rfl,oT,c7⟩
 have G:=aF y;have t:bt c.r (c.Z.map a0) j=br c:=by have q:j=c.Z.length:=ad;rw[q];rfl
 have H:(br c).length=n:=(nN c).trans f;refine zL rfl (.inr ⟨rfl,⟨(by show lo+n<=((A++(bt c.r (c.Z.map a0) j)++B).map aj).length;exact ad),trivial⟩⟩) ((show bI C0 _ [.X 17 (List.take n (List.drop lo ((A++(bt c.r (c.Z.map a0) j)++B).map aj))) d] (vI (-1))from by rw[show vI (-1)=vI (DM (yD (br c)))from by rw[J];rfl,tV (l:=bt c.r (c.Z.map a0) j) a (by first|assumption|exact f),t];exact QR (br c) d (by rw[nN];have:=b.Z;omega) (vV b)))<|zV (vB (decide ((-1)>=0)))<|aV rfl (λO=>by exact absurd O dT) (λ_=>?_);have u:kK c={c with Z:=br c}:=GE (λq=>q (wN v)) J;rw[u];exact i' 0 rfl<|BH rfl (h':=ap [(0,.box (ax ({c with Z:=br c}) (.S 1 lo n d) (.X 2 (c.Q.map a4) true) (.X 2 p m) (.X 9 r o))),(1,.arr ((A++br c++B).map aj) 17)]) (σ:=λz=>z) ⟨rfl,.inr ⟨1,A,B,d,.inl ⟨rfl,dT⟩,(oT:A.length+(br c).length+B.length<=1000),(by show _=ap [(0,.box (ax ({c with Z:=br c}) (.S 1 A.length (br c).length d) _ _ _)),_];rw[a,H])⟩⟩ rfl (ah (λz=>z) rfl rfl ⟨c9,⟨rfl,(by show some (bh.arr ((A++bt c.r (c.Z.map a0) j++B).map aj) 17)=_;rw[t];rfl),rfl⟩,trivial⟩ rfl)
def WQ(c)(Z)(a:c.I Z)(A B)(lo n)(d)(b:A.length=lo)(o:c.Z.length=n)(hA:A.length+n+B.length<=1000)(M:∀x∈A,x.ok)(N:∀x∈B,x.ok)(i)(v:yD (br c)=some i)(f g)(l m):pM C0.P C0.G 39 [.ptr 0 0] (ap [(0,.box (ax c (.S 1 lo n d) (.X 2 (c.Q.map a4) true) (.X 2 l f) (.X 9 m g))),(1,.arr ((A++c.Z++B).map aj) 17)]) 2 (λx h'=>x=.E []∧VF 2 (kK c) (.X 2 ((kK c).Q.map a4) true) (.X 2 l f) (.X 9 m g) h'):=by
 apply hZ 2 func39 rfl;have ab:i<n:=by have q:=ER v;rw[nN]at q;omega
 refine cN (c.halt != 0) (λC=>?_) (λC=>?_)
 ·have J:=wM C;have w:kK c=c:=aa J;rw[w];exact BH (rs:=[]) rfl ⟨rfl,.inr ⟨1,A,B,d,.inl ⟨rfl,dT⟩,(oT:A.length+(c.Z).length+B.length<=1000),(by show _=ap [(0,.box (ax (c) (.S 1 A.length (c.Z).length d) _ _ _)),_];rw[b,o])⟩⟩ rfl (ah (λz=>z) rfl rfl wH rfl)
 refine zV (vN n)<|k8 (λk=>⟨be [(0,.ptr 0 0),(16,vB (c.halt != 0)),(21,.S 1 lo n d),(22,vN n),(23,vN k)],ap [(0,.box (ax c (.S 1 lo n d) (.X 2 (c.Q.map a4) true) (.X 2 l f) (.X 9 m g))),(1,.arr ((A++(oY a0 c.Z k)++B).map aj) 17)],15⟩) (λk=>k<=n) (λk=>n-k) 0 (λs=>s) (av (λs=>s) wT wH rfl) rfl (aE _) ?_;intro k Y;have al:k<=n:=Y;have Q:k<=1000:=oH a.Z;have an:(oY a0 c.Z k).length=n:=p8.trans o;refine b7 (am (bz _ _)) (λD=>?_) (λD=>?_)
 ·have K:=bj D;apply nW (.u 1 (lo+k) 0) rfl rfl ez;let⟨x,e⟩:=d7 (oY a0 c.Z k) k;have u:=(Ii (λx h=>QH h) a.ok.Z8 k) x (aB e);refine zX (aj x) (.agg (aj x)) rfl (iH (jK b e))<|a8<|oR 7 rfl<|a1 rfl (uc x u)<|nW (.u 1 (lo+k) 0) rfl rfl ez ?_;have au:((oY a0 c.Z k).set k (a0 x))[k]?=some (a0 x):=aZ ad;refine nM (aj x) rfl rfl rfl (⟨aG _,iH ((jK b e))⟩) (uL b ad)<|rE 32 ?_;have S:k+1<=1001:=aD Q (aC 1);refine qX 0 rfl<|zW _ (ar (bH S rfl))<|.mk _ (.refl _) ⟨k+1,λs=>s,av _ wT ⟨c9,⟨rfl,(az (λz:List ai=>some (bh.arr ((A++z++B).map aj) 17)) (Cg e)),rfl⟩,trivial⟩ rfl,rfl,oT,c7⟩
 have K:=aF D;refine zV (vN n)<|k8 (λj=>⟨be [(0,.ptr 0 0),(16,vB (c.halt != 0)),(24,vB (decide (k<n))),(42,.S 1 lo n d),(43,vN n),(44,vN j)],ap [(0,.box (ax c (.S 1 lo n d) (.X 2 (c.Q.map a4) true) (.X 2 l f) (.X 9 m g))),(1,.arr ((A++(bt c.r (c.Z.map a0) j)++B).map aj) 17)],23⟩) (λj=>j<=n) (λj=>n-j) 0 (λs=>s) (av (λs=>s) wT ⟨c9,⟨rfl,(az (λz:List ai=>some (bh.arr ((A++z++B).map aj) 17)) (EQ ad)),rfl⟩,trivial⟩ rfl) rfl (aE _) ?_;intro j X;have ak:j<=n:=X;have t:j<=1000:=oH a.Z;have aq:(bt c.r (c.Z.map a0) j).length=n:=Ds.trans ((aH ..).trans o);refine b7 (am (bz _ _)) (λE=>?_) (λE=>?_)
 ·have L:=bj E;apply nW (.u 1 (lo+j) 0) rfl rfl ez;let⟨x,e⟩:=d7 (bt c.r (c.Z.map a0) j) j;have u:=(kq (tI a.ok.Z8) a.ok.r j) x (aB e);refine zX (aj x) (.agg (aj x)) rfl (iH (jK b e))<|a1 rfl (pS x.i)<|b7 (am (db _ _)) (λF=>?_) (λF=>?_)
  ·have p:=wM F;have T:j+1<=1001:=aD t (aC 1);refine zW _ (ar (bH T rfl))<|.mk _ (.refl _) ⟨j+1,λs=>s,av _ wT ⟨c9,⟨rfl,(az (λz:List ai=>some (bh.arr ((A++z++B).map aj) 17)) (show bt c.r (c.Z.map a0) j=bt c.r (c.Z.map a0) (j+1)from(CS e p).symm)),rfl⟩,trivial⟩ rfl,rfl,oT,c7⟩
  have p:=wN F;refine zC (Fs x.i)<|zR<|zL (x:=.E [vU ((lK (bt c.r (c.Z.map a0) j) c.r j x.i.x).getD 0),vB ((lK (bt c.r (c.Z.map a0) j) c.r j x.i.x).isSome)]) rfl (.inr ⟨rfl,⟨(by show lo+n<=((A++(bt c.r (c.Z.map a0) j)++B).map aj).length;exact ad),hD,trivial,trivial,trivial⟩⟩) ((show bI C0 80 [.X 17 (List.take n (List.drop lo ((A++(bt c.r (c.Z.map a0) j)++B).map aj))) d,.agg (Ks c.r),vN j,vI x.i.x] _ from by rw[tV (l:=bt c.r (c.Z.map a0) j) b (by first|assumption|exact o)];exact Kl (bt c.r (c.Z.map a0) j) c.r d j x.i.x (oH a.Z) (kq (tI a.ok.Z8) a.ok.r j) a.ok.r (oH a.Z)))<|aV rfl (λG=>?_) (λG=>?_)
  ·refine a8<|oR 8 rfl<|a1 rfl (RS x ((lK (bt c.r (c.Z.map a0) j) c.r j x.i.x).getD 0) u (Ck (kq (tI a.ok.Z8) a.ok.r j) a.ok.r j x.i.x))<|nW (.u 1 (lo+j) 0) rfl rfl ez ?_;have aw:((bt c.r (c.Z.map a0) j).set j (uF x ((lK (bt c.r (c.Z.map a0) j) c.r j x.i.x).getD 0)))[j]?=some (uF x ((lK (bt c.r (c.Z.map a0) j) c.r j x.i.x).getD 0)):=aZ ad;refine nM (aj x) (h':=ao _ 1 (some (.arr ((A++((bt c.r (c.Z.map a0) j).set j (uF x ((lK (bt c.r (c.Z.map a0) j) c.r j x.i.x).getD 0)))++B).map aj) 17))) rfl rfl rfl (⟨aG _,iH ((jK b e))⟩) (uL (f:=aj) (x:=(uF x ((lK (bt c.r (c.Z.map a0) j) c.r j x.i.x).getD 0))) (l:=bt c.r (c.Z.map a0) j) (i:=j) b ad)<|rE 72 ?_;have U:j+1<=1001:=aD t (aC 1);refine qX 0 rfl<|zW _ (ar (bH U rfl))<|.mk _ (.refl _) ⟨j+1,λs=>s,av _ wT ⟨c9,⟨rfl,(az (λz:List ai=>some (bh.arr ((A++z++B).map aj) 17)) (show(bt c.r (c.Z.map a0) j).set j (uF x ((lK (bt c.r (c.Z.map a0) j) c.r j x.i.x).getD 0))=bt c.r (c.Z.map a0) (j+1)from(Am e (p) G).symm)),rfl⟩,trivial⟩ rfl,rfl,oT,c7⟩
  skip
  have V:j+1<=1001:=aD t (aC 1);refine qC 0 rfl<|zW _ (ar (bH V rfl))<|.mk _ (.refl _) ⟨j+1,λs=>s,av _ wT ⟨c9,⟨rfl,(az (λz:List ai=>some (bh.arr ((A++z++B).map aj) 17)) (show bt c.r (c.Z.map a0) j=bt c.r (c.Z.map a0) (j+1)from(qp e G).symm)),rfl⟩,trivial⟩ rfl,rfl,oT,c7⟩
 have L:=aF E;have r:bt c.r (c.Z.map a0) j=br c:=by have q:j=c.Z.length:=ad;rw[q];rfl
 have O:(br c).length=n:=(nN c).trans o;have ag:i<n:=oH (ER v);let⟨y,I⟩:∃y,(br c)[i]?=some y:=⟨_,aA ad⟩;have ay:=vV a y (aB I);have H:∀x∈A++br c++B,x.ok:=sJ (sJ M (vV a)) N;have R:(bt c.r (c.Z.map a0) j)[i]?=some y:=by rw[r];exact I
 refine zL rfl (.inr ⟨rfl,⟨(by show lo+n<=((A++(bt c.r (c.Z.map a0) j)++B).map aj).length;exact ad),trivial⟩⟩) ((show bI C0 _ [.X 17 (List.take n (List.drop lo ((A++(bt c.r (c.Z.map a0) j)++B).map aj))) d] (vN i)from by rw[show vN i=vI (DM (yD (br c)))from by rw[v];rfl,tV (l:=bt c.r (c.Z.map a0) j) b (by first|assumption|exact o),r];exact QR (br c) d (by rw[nN];have:=a.Z;omega) (vV a)))<|b7 (am (i9 _ _)) (λ_=>?_) (λW=>by exact absurd W (by simp));refine zM (.u 1 (lo+i) 0) rfl ez<|ji (aj y) (vU y.next) rfl rfl (iH (jK b R)) rfl<|dx 0 rfl<|dq 0 (ax ({c with M:=y.next}:Co) (.S 1 lo n d) (.X 2 (c.Q.map a4) true) (.X 2 l f) (.X 9 m g)) rfl rfl rfl<|qR 0 rfl<|fU _ rfl rfl rfl ((show pM C0.P C0.G 83 [.S 0 lo n d,vN i] (ap [(0,.arr ((A++br c++B).map aj) 17)]) 1 (λx h'=>x=.S 1 0 (i+1) false∧h'=ap [(0,.arr ((A++br c++B).map aj) 17),(1,.arr ((dl (br c) i).map aj) 17)])from by have q:=CJ (A++br c++B) lo n i d (by simp[aU,nN];omega) (by simp[aU,nN];omega) ad H;rwa [Qs b O]at q).YU 1 _ _ rfl (by show some (bh.arr ((A++bt c.r (c.Z.map a0) j++B).map aj) 17)=_;rw[r]) rfl) ?_;rintro _ _ ⟨rfl,rfl⟩;refine dx 0 rfl<|dq 0 (ax ({c with M:=y.next}:Co) (.S 54 0 (i+1) false) (.X 2 (c.Q.map a4) true) (.X 2 l f) (.X 9 m g)) rfl rfl rfl<|dx 0 rfl<|dq 0 (ax ({c with M:=y.next}:Co) (.S 54 0 (i+1) false) (.X 0 ([]) true) (.X 2 l f) (.X 9 m g)) rfl rfl rfl<|dx 0 rfl<|dq 0 (ax ({c with M:=y.next,stop:=false}:Co) (.S 54 0 (i+1) false) (.X 0 ([]) true) (.X 2 l f) (.X 9 m g)) rfl rfl rfl ?_;have w:kK c={c with Z:=dl (br c) i,M:=y.next,Q:=[],stop:=false}:=GF (λq=>q (wN C)) v I;have P:(dl (br c) i).length=i+1:=MO ad;rw[w];exact dc 0 rfl<|SY rfl (.step none (e' (l:=[(0,.E [])]) (hp:=[(0,.box (ax ({c with Z:=dl (br c) i,M:=y.next,Q:=[],stop:=false}) (.S 54 0 (i+1) false) (.X 2 [] true) (.X 2 l f) (.X 9 m g))),(54,.arr ((dl (br c) i).map aj) 17)]) trivial ⟨.refl _,trivial⟩ ⟨⟨trivial,_,rfl,fc.ZP (qQ (.refl _) (.nil 2 true) (.refl _) (.refl _))⟩,⟨trivial,_,rfl,.refl _⟩,trivial⟩) (.refl _)) (h':=ap [(0,.box (ax ({c with Z:=dl (br c) i,M:=y.next,Q:=[],stop:=false}) (.S 2 0 (i+1) false) (.X 2 [] true) (.X 2 l f) (.X 9 m g))),(2,.arr ((dl (br c) i).map aj) 17)]) (σ:=λz=>match z with|2=>54|z=>z) ⟨rfl,.inr ⟨2,[],[],false,.inr rfl,(by show 0+(dl (br c) i).length+0<=1000;have:=a.Z;omega),(by show _=ap [(0,.box (ax ({c with Z:=dl (br c) i,M:=y.next,Q:=[],stop:=false}) (.S 2 0 (dl (br c) i).length false) _ _ _)),(2,.arr (([]++dl (br c) i++[]).map aj) 17)];rw[P,iA,dY];rfl)⟩⟩ rfl (qT (λz=>match z with|2=>54|z=>z) rfl rfl wH rfl)
def WR(c)(m)(r:c.I m)(a:c.Z=[])(b d)(e f):pM C0.P C0.G 39 [.ptr 0 0] (ap [(0,.box (ax c (.X 17 [] false) (.X 2 (c.Q.map a4) true) (.X 2 e b) (.X 9 f d)))]) 1 (λx h'=>x=.E []∧VF 1 (kK c) (.X 2 ((kK c).Q.map a4) true) (.X 2 e b) (.X 9 f d) h'):=by
 refine hZ 1 func39 rfl<|cN (c.halt != 0) (λg=>?_) (λg=>?_)
 ·rw[Ka a];exact BH rfl ⟨rfl,.inl ⟨a,rfl⟩⟩ rfl (ah (λz=>z) rfl rfl wH rfl)
 refine zW _ (vW aj ([]:List ai) ad)<|k8 (λk=>⟨be [(0,.ptr 0 0),(16,vB (c.halt != 0)),(21,.X 17 (([]:List ai).map aj) false),(22,vN 0),(23,vN k)],ap [(0,.box (ax c (.X 17 (([]:List ai).map aj) false) (.X 2 (c.Q.map a4) true) (.X 2 e b) (.X 9 f d)))],14⟩) (λk=>k<=0) (λk=>0-k) 0 (λs=>s) (av (λs=>s) wT wH rfl) rfl (aE _) ?_;intro k q;have o:k<=1000:=oT;refine b7 (am (bz _ _)) (λh=>by exact absurd (bj h) (dG _)) (λ_=>?_);refine zW _ (vW aj ([]:List ai) ad)<|k8 (λj=>⟨be [(0,.ptr 0 0),(16,vB (c.halt != 0)),(24,vB (decide (k<0))),(42,.X 17 (([]:List ai).map aj) false),(43,vN 0),(44,vN j)],ap [(0,.box (ax c (.X 17 (([]:List ai).map aj) false) (.X 2 (c.Q.map a4) true) (.X 2 e b) (.X 9 f d)))],22⟩) (λj=>j<=0) (λj=>0-j) 0 (λs=>s) (av (λs=>s) wT wH rfl) rfl (aE _) ?_;intro j p;have n:j<=1000:=oT;refine b7 (am (bz _ _)) (λi=>by exact absurd (bj i) (dG _)) (λ_=>?_);refine zC ((show bI C0 _ [.X 17 [] false] (vI (-1))from QR [] false dT nofun))<|zV (vB (decide ((-1)>=0)))<|aV rfl (λl=>by exact absurd l dT) (λ_=>?_);rw[Ka a];exact i' 0 rfl<|BH rfl ⟨rfl,.inl ⟨a,rfl⟩⟩ rfl (ah (λz=>z) rfl rfl wH rfl)
def jJ(c:Co):Co:={c with Y:=(eH c.Y).1}
def kC(c:Co):lM c=if(eH c.Y).2.2=true then ID (jJ c) (eH c.Y).2.1 else jJ c:=rfl
def wY{q}(h:∀x∈q,x.ok):(eH q).1.length<=q.length∧(∀x∈(eH q).1,x.ok)∧(eH q).2.1.R<=4294967295:=by
 unfold eH
 cases q with
 |nil=>exact⟨aC _,h,aE _⟩
 |cons y l=>
  have c:=h y (b9 ..);have b:∀x∈l,x.ok:=λx a=>h x (bY _ a);dsimp only;split
  ·exact⟨aC _,(λx a=>(dk.1 a).elim (λe=>e ▸ ⟨c.R⟩) (b x)),aE _⟩
  ·exact⟨fF _,b,c.R⟩
def Aj{c}{n}(h:c.I n):(jJ c).I n:=by
 have a:=wY h.ok.a;exact⟨⟨h.ok.U,h.ok.prog,h.ok.Z5,h.ok.r,h.ok.M,h.ok.Z6,h.ok.ZV,h.ok.Z,h.ok.Z8,h.ok.Z_,h.ok.Z2,h.ok.data,h.ok.C,aL a.1 h.ok.Y,a.2.1,h.ok.asked,h.ok.ZZ,h.ok.mem,h.ok.N,h.ok.ret,h.ok.ZU⟩,h.nb,h.cf,h.data,h.C,h.N,h.Z,h.Z6,h.Z_,h.prog,h.mem,h.ZM⟩
def EP{e:ai}(h:e.ok):({e with Z4:=true}:ai).ok:=⟨h.K,h.A,h.N,h.value,h.next,h.V⟩
def MN{c}{agY}{e}(h:e.ok):(wO c agY e).ok:=by
 unfold wO;split
 ·exact Il (EP h) _
 exact h
def TS{c:Co}{agY:Nat}{e:ai}(h:e.is=2∧ab e.V=agY):wO c agY e=uM {e with Z4:=true} (oL c e):=aa h
def WN{c:Co}{agY:Nat}{e:ai}(h: ¬(e.is=2∧ab e.V=agY)):wO c agY e=e:=dZ h
def LH{c}{n}(h:c.I n)(b:n+1<=890000):(lM c).I (n+1):=by
 have a:=(Aj h).mono (fF n) b;have d:=(wY h.ok.a).2.2;rw[kC];split
 ·unfold ID
  repeat' split
  ·have e:∀x∈(jJ c).Z.map (wO (jJ c) (eH c.Y).2.1.R),x.ok:=by
    intro x f;obtain⟨y,i,rfl⟩:=pG.1 f;exact MN (a.ok.Z8 y i)
   exact⟨⟨a.ok.U,a.ok.prog,a.ok.Z5,a.ok.r,a.ok.M,a.ok.Z6,a.ok.ZV,by rw[aH];exact a.ok.Z,e,a.ok.Z_,a.ok.Z2,a.ok.data,a.ok.C,a.ok.Y,a.ok.a,a.ok.asked,a.ok.ZZ,a.ok.mem,a.ok.N,a.ok.ret,a.ok.ZU⟩,a.nb,a.cf,a.data,a.C,a.N,by rw[aH];exact a.Z,a.Z6,a.Z_,a.prog,a.mem,a.ZM⟩
  ·have g:=hK.1 (a.gw.put d oZ false);exact⟨⟨a.ok.U,a.ok.prog,a.ok.Z5,a.ok.r,a.ok.M,a.ok.Z6,a.ok.ZV,a.ok.Z,a.ok.Z8,a.ok.Z_,a.ok.Z2,a.ok.data,g.2,a.ok.Y,a.ok.a,a.ok.asked,a.ok.ZZ,a.ok.mem,a.ok.N,a.ok.ret,a.ok.ZU⟩,a.nb,a.cf,a.data,g.1,a.N,a.Z,a.Z6,a.Z_,a.prog,a.mem,a.ZM⟩
  ·exact EX (Aj h) b d
  ·exact⟨⟨a.ok.U,a.ok.prog,a.ok.Z5,a.ok.r,a.ok.M,a.ok.Z6,a.ok.ZV,a.ok.Z,a.ok.Z8,a.ok.Z_,a.ok.Z2,a.ok.data,a.ok.C,a.ok.Y,a.ok.a,a.ok.asked,a.ok.ZZ,by rw[iY];exact a.ok.mem,a.ok.N,a.ok.ret,a.ok.ZU⟩,a.nb,a.cf,a.data,a.C,a.N,a.Z,a.Z6,a.Z_,a.prog,by rw[iY];exact a.mem,a.ZM⟩
  exact a
 exact a
def zv(c)(n)(k:c.I n)(agY)(a:agY<=4294967295)(d)(h)(b)(g)(e)(i)(f)(j):pM C0.P C0.G 75 [.ptr 0 0,vU agY] (ap [(0,.box (ax c (.X 17 h d) (.X 2 g b) (.X 2 i e) (.X 9 j f)))]) 1 (λx h'=>x=.E []∧h'=ap [(0,.box (ax (ET c agY) (.X 17 h d) (.X 2 g b) (.X 2 i e) (.X 9 j f)))]):=by rw[uY];exact CB c n k agY a d h b g e i f j
def y'(c)(n)(m:c.I n)(agY)(a:agY<=4294967295)(g h)(d)(i)(b)(j)(e)(k)(f)(l):pM C0.P C0.G 75 [.ptr 0 0,vU agY] (ap [(0,.box (ax c (.S 1 g h d) (.X 2 j b) (.X 2 k e) (.X 9 l f))),(1,.arr i 17)]) 2 (λx h'=>x=.E []∧h'=ap [(0,.box (ax (ET c agY) (.S 1 g h d) (.X 2 j b) (.X 2 k e) (.X 9 l f))),(1,.arr i 17)]):=by rw[uY];exact A0 c n m agY a g h d i b j e k f l
def za(c)(I)(a:c.I I)(A B)(lo n)(r)(m:A.length=lo)(N:c.Z.length=n)(hA:A.length+n+B.length<=1000)(q t u)(v w):pM C0.P C0.G 38 [.ptr 0 0] (ap [(0,.box (ax c (.S 1 lo n r) (.X 2 v q) (.X 2 (c.W.map aw) t) (.X 9 w u))),(1,.arr ((A++c.Z++B).map aj) 17)]) 2 (λx h'=>x=.E []∧h'=ap [(0,.box (ax (lM c) (.S 1 lo n r) (.X 2 v q) (.X 2 (c.W.map aw) t) (.X 9 w u))),(1,.arr ((A++(lM c).Z++B).map aj) 17)]):=by
 apply hI 2 func38 ?_;refine bq<|oR 5 rfl<|a1 rfl (VL c.Y false (oH a.Y) a.ok.a)<|oR 4 rfl<|e4 12 rfl rfl<|oR 1 rfl<|a_ rfl<|oR 1 rfl<|rE 16<|bq<|oR 5 rfl<|a_ rfl<|rE 22<|uR<|bq<|oR 2 rfl<|rE 24<|aV rfl (λg=>?_) (λg=>?_)
 ·apply FQ;have b:=kC c;have d:lM c=(jJ c):=b.trans (dZ (by rw[FV g];decide));rw[d];exact BH rfl a9 rfl (ah (λz=>z) rfl rfl wH rfl)
 refine mF<|bq<|oR 2 rfl<|rE 26<|kO<|bq<|rV (vB (((eH c.Y).2.1.kind)==1)) rfl<|oR 1 rfl<|rE 28<|aV rfl (λC=>?_) (λC=>?_)
 ·have e:=mT C;refine bq<|oR 5 rfl<|rV (vN n) rfl<|oR 1 rfl<|rE 35<|kO<|sX (λk=>⟨be [(0,.ptr 0 0),(3,.ptr 12 0),(23,vB (!((eH c.Y).2.2))),(25,vI ((eH c.Y).2.1.kind)),(26,vB (((eH c.Y).2.1.kind)==1)),(32,.S 1 lo n r),(33,vN n),(34,vN k)],ap [(0,.box (ax ({c with Y:=(eH c.Y).1}:Co) (.S 1 lo n r) (.X 2 v q) (.X 2 (c.W.map aw) t) (.X 9 w u))),(1,.arr ((A++(oY (wO (jJ c) (eH c.Y).2.1.R) c.Z k)++B).map aj) 17),(12,.box (ca ((eH c.Y).2.1)))],35⟩) (λk=>k<=n) (λk=>n-k) 0 (λs=>s) (av (λs=>s) wT wH rfl) rfl (aE _) ?_;intro k M;have O:k<=n:=M;have y:k<=1000:=oH a.Z;have P:(oY (wO (jJ c) (eH c.Y).2.1.R) c.Z k).length=n:=p8.trans N;refine bq<|rW _ rfl (am (bz _ _))<|rE 36<|uR<|aV rfl (λD=>?_) (λD=>?_)
  ·have J:=bj D;refine mF<|uR<|kO<|bq<|oR 1 rfl<|nW (.u 1 (lo+k) 0) rfl rfl ez ?_;let⟨x,o⟩:=d7 (oY (wO (jJ c) (eH c.Y).2.1.R) c.Z k) k;have p:=(Ii (λx h=>MN h) a.ok.Z8 k) x (aB o);refine ji (aj x) (.agg (aj x)) rfl rfl (iH (jK m o)) rfl<|e4 39 rfl rfl<|oR 1 rfl<|a_ rfl<|rE 42<|bq<|oR 2 rfl<|rV (vB (x.is==2)) rfl<|oR 1 rfl<|gN rfl<|gS rfl id<|jQ rfl rfl rfl rfl (λh=>h) rfl rfl rfl (.inl rfl) rfl (λR=>tN x.V p.V)<|gN rfl<|gS rfl id<|ay rfl cn (am (a6 _ _))<|bO rfl rfl rfl (λh=>h)<|rE 53<|aV rfl (λE=>?_) (λE=>?_)
   ·have l:(x.is=2∧ab x.V=(eH c.Y).2.1.R):=by have z:=E;simpa [ic]using z
    refine bq<|oR 1 rfl<|a_ rfl<|rE 55<|a8<|oR 9 rfl<|kS rfl (.inr ⟨rfl,⟨trivial,hD,trivial⟩⟩) (MV (jJ c) I (Aj a) .any (.X 2 v q) (.X 9 w u) t ({x with Z4:=true}:ai) (EP p))<|a1 rfl (RR ({x with Z4:=true}:ai) (oL (jJ c) x) (EP p) (by have:=GN (c:=(jJ c)) (by have:=a.mem;exact this) x;omega))<|nW (.u 1 (lo+k) 0) rfl rfl ez ?_;have Q:((oY (wO (jJ c) (eH c.Y).2.1.R) c.Z k).set k (uM ({x with Z4:=true}:ai) (oL (jJ c) x)))[k]?=some (uM ({x with Z4:=true}:ai) (oL (jJ c) x)):=aZ ad;refine nM (aj x) rfl rfl rfl (⟨aG _,iH ((jK m o))⟩) (uL m ad)<|rE 68<|a8 ?_;have K:k+1<=1001:=aD y (aC 1);refine rW _ rfl (ar (bH K rfl))<|oR 1 rfl<|rE 70<|.mk _ (.refl _) ⟨k+1,λs=>s,av _ wT ⟨c9,⟨rfl,(az (λz:List ai=>some (bh.arr ((A++z++B).map aj) 17)) (show(oY (wO (jJ c) (eH c.Y).2.1.R) c.Z k).set k (uM ({x with Z4:=true}:ai) (oL (jJ c) x))=oY (wO (jJ c) (eH c.Y).2.1.R) c.Z (k+1)from by rw[<-Cg o,TS l])),rfl⟩,c9,trivial⟩ rfl,rfl,oT,c7⟩
   have l: ¬(x.is=2∧ab x.V=(eH c.Y).2.1.R):=by have z:=E;simpa [ic]using z
   refine mF<|a8 ?_;have L:k+1<=1001:=aD y (aC 1);refine rW _ rfl (ar (bH L rfl))<|oR 1 rfl<|rE 55<|.mk _ (.refl _) ⟨k+1,λs=>s,av _ wT ⟨c9,⟨rfl,(az (λz:List ai=>some (bh.arr ((A++z++B).map aj) 17)) (show oY (wO (jJ c) (eH c.Y).2.1.R) c.Z k=oY (wO (jJ c) (eH c.Y).2.1.R) c.Z (k+1)from OC o (WN l))),rfl⟩,c9,trivial⟩ rfl,rfl,oT,c7⟩
  have J:=aF D;apply Bh;have b:=kC c;have d:lM c={jJ c with Z:=c.Z.map (wO (jJ c) (eH c.Y).2.1.R)}:=((b.trans (aa (dQ (sI g)))).trans (aa e));rw[d];exact BH rfl a9 rfl (ah (λz=>z) rfl rfl ⟨c9,⟨rfl,(az (λz:List ai=>some (bh.arr ((A++z++B).map aj) 17)) (EQ ad)),rfl⟩,trivial⟩ rfl)
 have e:=nA C;refine bq<|rV (vB (((eH c.Y).2.1.kind)==2)) rfl<|oR 1 rfl<|rE 30<|aV rfl (λF=>?_) (λF=>?_)
 ·have f:=mT F;refine a8<|oR 8 rfl<|a1 rfl (Re c.C (eH c.Y).2.1.R oZ false a.ok.C (wY a.ok.a).2.2)<|oR 7 rfl<|a_ rfl<|rE 47 ?_;have b:=kC c;have d:lM c={jJ c with C:=(qZ c.C (eH c.Y).2.1.R oZ false).1}:=(((b.trans (aa (dQ (sI g)))).trans (dZ e)).trans (aa f));rw[d];exact BH rfl a9 rfl (ah (λz=>z) rfl rfl wH rfl)
 have f:=nA F;refine bq<|rV (vB (((eH c.Y).2.1.kind)==3)) rfl<|oR 1 rfl<|rE 32<|aV rfl (λG=>?_) (λG=>?_)
 ·have i:=mT G;refine a8<|oR 3 rfl<|fU _ rfl rfl rfl ((y' (jJ c) I (Aj a) (eH c.Y).2.1.R (wY a.ok.a).2.2 lo n r ((A++c.Z++B).map aj) q v t (c.W.map aw) u w).fB (λz=>z)) ?_;rintro _ _ ⟨rfl,rfl⟩;apply rE 36;have b:=kC c;have d:lM c=ET (jJ c) (eH c.Y).2.1.R:=(((((b.trans (aa (dQ (sI g)))).trans (dZ e)).trans (dZ f)).trans (aa i))).trans (uY _ _).symm;rw[d];exact BH rfl ⟨rfl,rfl⟩ rfl (ah (λz=>z) rfl rfl wH rfl)
 have i:=nA G;refine bq<|rV (vB (((eH c.Y).2.1.kind)==4)) rfl<|oR 1 rfl<|rE 34<|aV rfl (λH=>?_) (λH=>?_)
 all_goals
  first|(have j:=mT H;refine a8<|oR 10 rfl<|rV (.agg [vU ((eH c.Y).2.1.R),.v (.string ((eH c.Y).2.1.data))]) rfl<|rV (.X 2 ([[vU ((eH c.Y).2.1.R),.v (.string ((eH c.Y).2.1.data))]]) true) rfl<|a1 rfl (QX c.mem [⟨(eH c.Y).2.1.R,(eH c.Y).2.1.data⟩] true (oH a.mem) (by show 1<=1000000;decide) (sK ⟨(wY a.ok.a).2.2⟩))<|oR 3 rfl<|a_ rfl<|rE 51 ?_)|(have j:=nA H;refine mF ?_)
  have b:=kC c
  first|have d:lM c={jJ c with mem:=rP c.mem [⟨(eH c.Y).2.1.R,(eH c.Y).2.1.data⟩]}:=(((((b.trans (aa (dQ (sI g)))).trans (dZ e)).trans (dZ f)).trans (dZ i)).trans (aa j))|have d:lM c=(jJ c):=(((((b.trans (aa (dQ (sI g)))).trans (dZ e)).trans (dZ f)).trans (dZ i)).trans (dZ j))
  rw[d];exact BH rfl a9 rfl (ah (λz=>z) rfl rfl wH rfl)
def WO(c)(u)(f:c.I u)(y:c.Z=[])(j l m)(n o):pM C0.P C0.G 38 [.ptr 0 0] (ap [(0,.box (ax c (.X 17 [] false) (.X 2 n j) (.X 2 (c.W.map aw) l) (.X 9 o m)))]) 1 (λx h'=>x=.E []∧h'=ap [(0,.box (ax (lM c) (.X 17 [] false) (.X 2 n j) (.X 2 (c.W.map aw) l) (.X 9 o m)))]):=by
 apply hI 1 func38 ?_;refine bq<|oR 5 rfl<|a1 rfl (VL c.Y false (oH f.Y) f.ok.a)<|oR 4 rfl<|e4 11 rfl rfl<|oR 1 rfl<|a_ rfl<|oR 1 rfl<|rE 15<|bq<|oR 5 rfl<|a_ rfl<|rE 21<|uR<|bq<|oR 2 rfl<|rE 23<|aV rfl (λg=>?_) (λg=>?_)
 ·apply FQ;have a:=kC c;have b:lM c=(jJ c):=a.trans (dZ (by rw[FV g];decide));rw[b];exact BH rfl a9 rfl (ah (λz=>z) rfl rfl wH rfl)
 refine mF<|bq<|oR 2 rfl<|rE 25<|kO<|bq<|rV (vB (((eH c.Y).2.1.kind)==1)) rfl<|oR 1 rfl<|rE 27<|aV rfl (λp=>?_) (λp=>?_)
 ·have d:=mT p;refine bq<|oR 5 rfl<|rW _ rfl (vW aj ([]:List ai) ad)<|oR 1 rfl<|rE 34<|kO<|sX (λk=>⟨be [(0,.ptr 0 0),(3,.ptr 11 0),(23,vB (!((eH c.Y).2.2))),(25,vI ((eH c.Y).2.1.kind)),(26,vB (((eH c.Y).2.1.kind)==1)),(32,.X 17 (([]:List ai).map aj) false),(33,vN 0),(34,vN k)],ap [(0,.box (ax ({c with Y:=(eH c.Y).1}:Co) (.X 17 (([]:List ai).map aj) false) (.X 2 n j) (.X 2 (c.W.map aw) l) (.X 9 o m))),(11,.box (ca ((eH c.Y).2.1)))],34⟩) (λk=>k<=0) (λk=>0-k) 0 (λs=>s) (av (λs=>s) wT wH rfl) rfl (aE _) ?_;intro k A;have w:k<=1000:=oT;refine bq<|rW _ rfl (am (bz _ _))<|rE 35<|uR<|aV rfl (λv=>by exact absurd (bj v) (dG _)) (λ_=>?_);apply Bh;have a:=kC c;have b:lM c={jJ c with Z:=c.Z.map (wO (jJ c) (eH c.Y).2.1.R)}:=((a.trans (aa (dQ (sI g)))).trans (aa d));rw[b];exact BH rfl a9 rfl (ah (λz=>z) rfl rfl wH rfl)
 have d:=nA p;refine bq<|rV (vB (((eH c.Y).2.1.kind)==2)) rfl<|oR 1 rfl<|rE 29<|aV rfl (λq=>?_) (λq=>?_)
 ·have e:=mT q;refine a8<|oR 8 rfl<|a1 rfl (Re c.C (eH c.Y).2.1.R oZ false f.ok.C (wY f.ok.a).2.2)<|oR 7 rfl<|a_ rfl<|rE 46 ?_;have a:=kC c;have b:lM c={jJ c with C:=(qZ c.C (eH c.Y).2.1.R oZ false).1}:=(((a.trans (aa (dQ (sI g)))).trans (dZ d)).trans (aa e));rw[b];exact BH rfl a9 rfl (ah (λz=>z) rfl rfl wH rfl)
 have e:=nA q;refine bq<|rV (vB (((eH c.Y).2.1.kind)==3)) rfl<|oR 1 rfl<|rE 31<|aV rfl (λr=>?_) (λr=>?_)
 ·have h:=mT r;refine a8<|oR 3 rfl<|fU _ rfl rfl rfl ((zv (jJ c) u (Aj f) (eH c.Y).2.1.R (wY f.ok.a).2.2 false [] j n l (c.W.map aw) m o).fB (λz=>z)) ?_;rintro _ _ ⟨rfl,rfl⟩;apply rE 35;have a:=kC c;have b:lM c=ET (jJ c) (eH c.Y).2.1.R:=(((((a.trans (aa (dQ (sI g)))).trans (dZ d)).trans (dZ e)).trans (aa h))).trans (uY _ _).symm;rw[b];exact BH rfl ⟨rfl,rfl⟩ rfl (ah (λz=>z) rfl rfl wH rfl)
 have h:=nA r;refine bq<|rV (vB (((eH c.Y).2.1.kind)==4)) rfl<|oR 1 rfl<|rE 33<|aV rfl (λt=>?_) (λt=>?_)
 all_goals
  first|(have i:=mT t;refine a8<|oR 10 rfl<|rV (.agg [vU ((eH c.Y).2.1.R),.v (.string ((eH c.Y).2.1.data))]) rfl<|rV (.X 2 ([[vU ((eH c.Y).2.1.R),.v (.string ((eH c.Y).2.1.data))]]) true) rfl<|a1 rfl (QX c.mem [⟨(eH c.Y).2.1.R,(eH c.Y).2.1.data⟩] true (oH f.mem) (by show 1<=1000000;decide) (sK ⟨(wY f.ok.a).2.2⟩))<|oR 3 rfl<|a_ rfl<|rE 50 ?_)|(have i:=nA t;refine mF ?_)
  have a:=kC c
  first|have b:lM c={jJ c with mem:=rP c.mem [⟨(eH c.Y).2.1.R,(eH c.Y).2.1.data⟩]}:=(((((a.trans (aa (dQ (sI g)))).trans (dZ d)).trans (dZ e)).trans (dZ h)).trans (aa i))|have b:lM c=(jJ c):=(((((a.trans (aa (dQ (sI g)))).trans (dZ d)).trans (dZ e)).trans (dZ h)).trans (dZ i))
  rw[b];exact BH rfl a9 rfl (ah (λz=>z) rfl rfl wH rfl)
def FU{c}{n}{s}(h:c.I n)(a:n+1<=890000)(d:s.ok):(tM c s).I (n+1):=by
 have b:(c.O++[s]).length<=n+1:=by have:=h.ok.ret;simp;omega
 exact⟨⟨h.ok.U,h.ok.prog,h.ok.Z5,h.ok.r,h.ok.M,aE _,nofun,aE _,nofun,h.ok.Z_,h.ok.Z2,h.ok.data,h.ok.C,qJ h.ok.Y,h.ok.a,h.ok.asked,h.ok.ZZ,h.ok.mem,h.ok.N,b,sJ h.ok.ZU (sK d)⟩,a,h.cf,h.data,h.C,h.N,aE _,aE _,h.Z_,h.prog,h.mem,h.ZM⟩
theorem Ah:∀{n:Nat} {c:Co} {m:Nat},c.I m->m+2*n<=890000->(eC n c).I (m+2*n)
 |0,_,_,h,_=>h
 | n + 1,c,m,h,b=>by
  have a:m<=m+2*(n+1):=oT;by_cases f:c.halt≠0∨c.Z.length=0
  ·rw[mG f];exact h.mono a b
  ·have i:c.Z[0]?=some (c.Z[0]'ad):=aA ad;have e:=WV h i;rw[iX ad (λq=>f (.inl q)) i];split
   ·exact h.mono a b
   ·split
    ·exact(FU h ad (fE e)).mono ad b
    ·split
     ·exact h.mono a b
     ·rename_i j;have d:(cA (c.Z[0]'ad)).store=true->c.W.length<=999:=λq=>by
       have:=pD h.cf;have: ¬(c.W.length:Int)>=c.U.W:=λz=>j ⟨q,z⟩;omega
      rw[kB,(oT:m+2*(n+1)=(m+2)+2*n)];by_cases g:ak (c.Z[0]'ad).i.op=3
      ·rw[Ke g];exact Ah (GJ h ad e d) ad
      ·rw[An g];exact Ah (xZ h ad e d) ad
def TR{c:Co}{n:Nat}(h:c.I n):c.U.k.toNat<=2:=oH (pD h.cf)
def Ih{c}{m}(h:c.I m)(a:m+4<=890000):(ei c).I (m+4):=by
 have b:=TR h;exact(Ah h ad).mono ad a
theorem EM:∀{p:List Nat} {c:Co} {m:Nat},c.I m->m+p.length<=890000->(p.foldl iS c).I (m+p.length)
 |[],_,_,h,_=>h
 |i::p,c,m,h,a=>by
  have b:(i::p).length=p.length+1:=rfl;rw[b]at a⊢;rw[(oT:m+(p.length+1)=(m+1)+p.length)];exact EM (yY h ad i).1 ad
def JX{c}{m}(h:c.I m)(a:m+2<=890000):(gY c).I (m+2):=by
 by_cases b:c.halt≠0
 ·rw[show gY c=c from aa b];exact h.mono ad a
 let⟨p, _,hp, _,d⟩:=Ao h.cf b rfl;rw[hp];exact(EM h ad).mono ad a
theorem Dq:∀{p:List Nat} {c:Co} {m:Nat},c.I m->m+p.length<=890000->(p.foldl iS c).Z.length=c.Z.length∧(p.foldl iS c).W=c.W∧(p.foldl iS c).Q=c.Q∧(p.foldl iS c).O=c.O
 |[],_,_,_,_=>d8
 |i::p,c,m,h,b=>by
  have d:(i::p).length=p.length+1:=rfl;rw[d]at b;have a:=yY h ad i;have ih:=Dq (p:=p) a.1 ad;exact⟨ih.1.trans a.2.1,ih.2.1.trans a.2.2.2.1,ih.2.2.1.trans a.2.2.2.2.1,ih.2.2.2.trans a.2.2.2.2.2⟩
def nO{c}{m}(h:c.I m)(b:m+2<=890000):(gY c).Z.length=c.Z.length∧(gY c).W=c.W∧(gY c).Q=c.Q∧(gY c).O=c.O:=by
 by_cases a:c.halt≠0
 ·rw[show gY c=c from aa a];exact⟨rfl,rfl,rfl,rfl⟩
 let⟨p, _,hp, _,d⟩:=Ao h.cf a rfl;rw[hp];exact Dq h ad
theorem EN:∀{n:Nat} {c:Co} {m:Nat},c.I m->(kV n c).I m∧(kV n c).W=c.W∧(kV n c).O=c.O
 |0,_,_,h=>⟨h,rfl,rfl⟩
 | n+1,c,m,h=>by
  by_cases a:(c.Z.length:Int)>=c.U.Z∨c.Q.length=0
  ·rw[Ap a];exact⟨h,rfl,rfl⟩
  ·have b:c.Q[0]?=some (c.Q[0]'ad):=aA ad;have d:=h.ok.ZV _ (aB b);have f:c.Z.length<=999:=oH (pD h.cf);have e:=CU (n:=n+1) (k:=0) ad (λq=>a (.inl q)) b;rw[(oT:n+1-(0+1)=n),(oT:n+1-0=n+1)]at e;rw[<-e];have ih:=EN (n:=n) (CV h d f);exact⟨ih.1,ih.2.1,ih.2.2⟩
def Ai{c}{m}(h:c.I m):(lP c).I m∧(lP c).W=c.W∧(lP c).O=c.O:=by
 unfold lP;split
 ·exact⟨h,rfl,rfl⟩
 exact EN h
def LF(c)(w):(dM c w).1.W=c.W∧(dM c w).1.O=c.O∧(dM c w).1.Z=c.Z:=by
 unfold dM;split
 ·exact⟨rfl,rfl,rfl⟩
 split<;>exact⟨rfl,rfl,rfl⟩
def LG(d:Co):(zP d).W=d.W∧(zP d).O=d.O∧(zP d).Z=d.Z:=LF _ _
def JY{c:Co}{m}(h:c.I m)(b:c.Q.length<=999):Co.I {c with Q:=c.Q++[⟨c.M,b8 c.M⟩],stop:=true} m:=by
 have a:(c.Q++[(⟨c.M,b8 c.M⟩:Ft)]).length<=1000:=by simp;omega
 exact⟨⟨h.ok.U,h.ok.prog,h.ok.Z5,h.ok.r,h.ok.M,aL a dT,sJ h.ok.ZV (sK ⟨h.ok.M,uT _⟩),h.ok.Z,h.ok.Z8,h.ok.Z_,h.ok.Z2,h.ok.data,h.ok.C,h.ok.Y,h.ok.a,h.ok.asked,h.ok.ZZ,h.ok.mem,h.ok.N,h.ok.ret,h.ok.ZU⟩,h.nb,h.cf,h.data,h.C,h.N,h.Z,a,h.Z_,h.prog,h.mem,h.ZM⟩
theorem Dr:∀{n:Nat} {c:Co} {m:Nat},c.I m->m+1<=890000->(eL n c).I (m+1)∧(eL n c).W=c.W∧(eL n c).O=c.O∧(eL n c).Z=c.Z
 |0,_,_,h,a=>⟨h.mono (fF _) a,rfl,rfl,rfl⟩
 | n +1,c,m,h,a=>by
  have d:=h.mono (fF m) a;by_cases b:c.stop=true∨(c.Q.length:Int)>=c.U.queue
  ·rw[yZ b];exact⟨d,rfl,rfl,rfl⟩
  ·have i:c.Q.length<=999:=oH (pD h.cf);by_cases f:(ek c.prog c.M).isSome=false
   ·rw[Aq ad b f];exact⟨JY d i,rfl,rfl,rfl⟩
   ·by_cases j:(bK c.C (ab c.M)).2.isSome=false
    ·rw[uD ad b f j];split
     ·exact⟨sH h a 2 (dV h.ok.M) oZ,rfl,rfl,rfl⟩
     ·exact⟨d,rfl,rfl,rfl⟩
    ·have e:=BC (n:=n+1) (k:=0) ad b f j;rw[(oT:n+1-(0+1)=n),(oT:n+1-0=n+1)]at e;rw[<-e];have ih:=Dr (n:=n) (CW h i) a;have g:=LG c;exact⟨ih.1,ih.2.1.trans g.1,ih.2.2.1.trans g.2.1,ih.2.2.2.trans g.2.2⟩
def uX{c}{m}(h:c.I m)(a:m+1<=890000):(eN c).I (m+1)∧(eN c).W=c.W∧(eN c).O=c.O∧(eN c).Z=c.Z:=by
 unfold eN;split
 ·exact⟨h.mono (fF _) a,rfl,rfl,rfl⟩
 exact Dr h a
def JZ{c}{m}(h:c.I m)(b:m+1<=890000):(tW c).I (m+1)∧(tW c).Q=c.Q∧(tW c).O=c.O∧(tW c).Z=c.Z∧(tW c).W=c.W:=by
 unfold tW
 cases a:c.W with
 |nil=>exact⟨h.mono (fF _) b,rfl,rfl,rfl,a⟩
 |cons p l=>
  dsimp only;split
  ·exact⟨sH h b 3 (dV (h.ok.Z2 p (by rw[a];exact b9 ..)).V) oZ,rfl,rfl,rfl,a⟩
  ·exact⟨h.mono (fF _) b,rfl,rfl,rfl,a⟩
def EO{c}{m}(h:c.I m)(b:m+1<=890000):(nP c).I (m+1)∧(nP c).Q=c.Q∧(nP c).O=c.O∧(nP c).Z=c.Z∧(nP c).W=c.W:=by
 have d:=h.mono (fF m) b;unfold nP;split
 ·exact⟨d,rfl,rfl,rfl,rfl⟩
 by_cases e:(cR c.data).isSome=true∧((cR c.data).getD qE).data.size≠0
 ·rw[uZ e];have a:=sH h b 4 h.gd.ZO ((cR c.data).getD qE).data;have g:=hK.1 (h.gd.Y4 ((cR c.data).getD qE).R);exact⟨⟨⟨a.ok.U,a.ok.prog,a.ok.Z5,a.ok.r,a.ok.M,a.ok.Z6,a.ok.ZV,a.ok.Z,a.ok.Z8,a.ok.Z_,a.ok.Z2,g.2,a.ok.C,a.ok.Y,a.ok.a,a.ok.asked,a.ok.ZZ,a.ok.mem,a.ok.N,a.ok.ret,a.ok.ZU⟩,b,a.cf,g.1,a.C,a.N,a.Z,a.Z6,a.Z_,a.prog,a.mem,a.ZM⟩,rfl,rfl,rfl,rfl⟩
 rw[wZ e];exact⟨d,rfl,rfl,rfl,rfl⟩
def wX{c}{m}(h:c.I m)(e:m+2<=890000):(tY c).I (m+2)∧(tY c).Q=c.Q∧(tY c).O=c.O∧(tY c).Z=c.Z:=by
 rw[mO];have d:=eR h;split
 ·have b:=JZ d ad;have a:=EO b.1 ad;exact⟨a.1,a.2.1.trans b.2.1,a.2.2.1.trans b.2.2.1,a.2.2.2.1.trans b.2.2.2.1⟩
 have a:=EO d ad;exact⟨a.1.mono ad e,a.2.1,a.2.2.1,a.2.2.2.1⟩
def rG(c):(lM c).Q=c.Q∧(lM c).W=c.W∧(lM c).O=c.O∧(lM c).Z.length=c.Z.length:=by
 rw[kC];split
 ·unfold ID
  repeat' split
  ·exact⟨rfl,rfl,rfl,aH ..⟩
  ·exact⟨rfl,rfl,rfl,rfl⟩
  ·rw[<-uY];exact⟨rfl,rfl,rfl,rfl⟩
  ·exact⟨rfl,rfl,rfl,rfl⟩
  exact⟨rfl,rfl,rfl,rfl⟩
 exact⟨rfl,rfl,rfl,rfl⟩
def mC(c):(kK c).W=c.W∧(kK c).O=c.O:=by
 unfold kK;split
 ·exact⟨rfl,rfl⟩
 split<;>exact⟨rfl,rfl⟩
end Go.Proofs.YtdhclfgoomldfaaGreatDoor
