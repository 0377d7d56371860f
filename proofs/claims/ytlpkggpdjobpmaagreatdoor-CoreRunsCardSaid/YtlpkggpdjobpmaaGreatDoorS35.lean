/- Lemmas. -/
import Derived.Test.YtlpkggpdjobpmaaGreatDoorS1
import Derived.Test.YtlpkggpdjobpmaaGreatDoorS30
import Derived.Test.YtlpkggpdjobpmaaGreatDoorS34
set_option linter.all false
namespace Go.Proofs.YtlpkggpdjobpmaaGreatDoor
open Go.Proofs.Tryz
set_option maxRecDepth 100000
set_option maxHeartbeats 4000000
open Go.RowKit
def Qy{no}{f}{prog}(hf:f.ok):(qB no f prog).ok:=by
 have hi:(decN (fetchW prog f.pc)).agR<=4294967295:=aI (IU _);unfold qB
 repeat' split
 all_goals first|exact⟨hf.pc,aE _,hf.agK,aE _,aE _,aE _⟩|exact⟨hf.pc,hi,hf.agK,aE _,uT _,aE _⟩|exact⟨hf.pc,hi,hf.agK,aE _,aE _,aE _⟩|exact⟨hf.pc,hi,hf.agK,aE _,hf.pc,aE _⟩
def Kh(d:Co)(f:Ft):Co:={d with agI:=d.agI++[qB d.next f d.prog],next:=wrap64 (d.next+1),agH:=d.agH.drop 1}
def Ap{d}{n}(h:(d.agI.length:Int)>=d.agL.agI∨d.agH.length=0):kV n d=d:=by
 cases n with
 |zero=>rfl
 | succ n=>
  unfold kV;by_cases h1:(d.agI.length:Int)>=d.agL.agI
  ·exact af1 h1
  ·rw[dZ h1];have hz:d.agH=[]:=afC (h.resolve_left h1);rw[hz]
def CU{d}{n k}{f}(hn:k<n)(h: ¬(d.agI.length:Int)>=d.agL.agI)(hf:d.agH[0]?=some f):kV (n-(k+1)) (Kh d f)=kV (n-k) d:=by
 rw[(oT:n-k=(n-(k+1))+1)]
 conv=>rhs;unfold kV
 rw[dZ h];unfold Kh
 cases hz:d.agH with
 |nil=>rw[hz]at hf;cases hf
 |cons y l=>rw[hz]at hf;injection hf with hf;subst hf;rfl
def CV{c}{n}{f}(h:c.okM n)(hf:f.ok)(hr:c.agI.length<=999):(Kh c f).okM n:=by
 have hl:(c.agI++[qB c.next f c.prog]).length<=1000:=by simp;omega
 have hd:(c.agH.drop 1).length<=1000:=by have:=h.fet;rw[bD];omega
 exact⟨⟨h.ok.agL,h.ok.prog,h.ok.progo,h.ok.r,h.ok.agM,aL hd dT,Iz h.ok.feto,aL hl dT,sJ h.ok.agX (sK (Qy hf)),h.ok.sto,h.ok.stoo,h.ok.data,h.ok.agO,h.ok.agS,h.ok.buso,h.ok.asked,h.ok.agT,h.ok.mem,h.ok.agK,h.ok.ret,h.ok.reto⟩,h.nb,h.cf,h.data,h.agO,h.agK,hl,hd,h.sto,h.prog,h.mem,h.std⟩
def VI(agI)(ck)(no)(f)(prog)(hl:agI.length<=1000)(ho:∀x∈agI,x.ok)(hf:f.ok)(hp:∀x∈prog,x<=4294967295)(hpl:prog.length<=1000000):bI C0 76 [.sl 17 (agI.map enL) ck,vI no,.agg (ftL f),.sl 1 (prog.map dU) false] (.sl 17 ((agI++[qB no f prog]).map enL) false):=by
 refine dJZ func76 rfl<|zV (.agg [vI no,vU f.pc,vI 0,vI 0,vI 0,vI 0,zU,vU f.agK,vI 0,vI 0,zU,zU,zU,vI 0,vI 0,vB false,vB false])<|zC (ND prog f.pc false hp hpl hf.pc)<|zC (IV (fetchW prog f.pc) (CI (LN hp f.pc)))<|zB rfl (λh1=>?_) (λh1=>?_)
 ·refine zVB (1 != 0) (λ_=>?_) (λh2=>by exact absurd h2 dT);refine zR<|zW (vN agI.length) (cD enL agI)<|zW (vN agI.length) (cD enL agI)<|zM (.sl 17 ((agI.take agI.length).map enL) true) (yB (vY enL agI agI.length)) (by refine⟨?_,?_,?_,?_⟩;all_goals (first|exact aG _|decide|(apply FG.2;exact omT)|(show(_:Int)=(_:Int);congr 1;omega)|rfl))<|zV (.sl 17 ([[vI no,vU f.pc,vI 0,vI 0,vI 0,vI 0,zU,vU f.agK,vI 3,vI 0,zU,zU,zU,vI 1,vI 0,vB false,vB false]]) true)<|zF (x:=.osl 45 0 (agI.length+1) false) (h':=upd _ 45 (some (.arr (((agI.take agI.length)++([(⟨no,f.pc,⟨0,0,0,0,0⟩,f.agK,3,0,0,0,0,1,0,false,false⟩:Ent)])).map enL) 17))) (Au enL (agI.take agI.length) ([(⟨no,f.pc,⟨0,0,0,0,0⟩,f.agK,3,0,0,0,0,1,0,false,false⟩:Ent)]) omT) (⟨by exact omT,by exact omT,trivial,trivial⟩) ?_;have e:(⟨no,f.pc,⟨0,0,0,0,0⟩,f.agK,3,0,0,0,0,1,0,false,false⟩:Ent)=qB no f prog:=by unfold qB;rw[af1 (FV h1)];rfl
  refine dK rfl (by show 0+(agI.length+1)<=(((agI.take agI.length)++([(⟨no,f.pc,⟨0,0,0,0,0⟩,f.agK,3,0,0,0,0,1,0,false,false⟩:Ent)])).map enL).length;exact omT) rfl ?_;show AV.sl 17 (List.take (agI.length+1) (List.drop 0 (((agI.take agI.length)++([(⟨no,f.pc,⟨0,0,0,0,0⟩,f.agK,3,0,0,0,0,1,0,false,false⟩:Ent)])).map enL))) false=_;rw[jW enL ((agI.take agI.length)++([(⟨no,f.pc,⟨0,0,0,0,0⟩,f.agK,3,0,0,0,0,1,0,false,false⟩:Ent)])) omT];rw[e,cH]
 refine zW (vB ((decE (fetchW prog f.pc)) != 0)) (okB (neN _ _))<|zB rfl (λh3=>?_) (λh3=>?_)
 ·have h3p:=wM h3;refine zVB (2 != 0) (λ_=>?_) (λh4=>by exact absurd h4 dT);refine zR<|zW (vN agI.length) (cD enL agI)<|zW (vN agI.length) (cD enL agI)<|zM (.sl 17 ((agI.take agI.length).map enL) true) (yB (vY enL agI agI.length)) (by refine⟨?_,?_,?_,?_⟩;all_goals (first|exact aG _|decide|(apply FG.2;exact omT)|(show(_:Int)=(_:Int);congr 1;omega)|rfl))<|zV (.sl 17 ([[vI no,vU f.pc,vI 0,vI 0,vI 0,vI 0,zU,vU f.agK,vI 3,vI 0,zU,zU,zU,vI 2,vI 0,vB false,vB false]]) true)<|zF (x:=.osl 48 0 (agI.length+1) false) (h':=upd _ 48 (some (.arr (((agI.take agI.length)++([(⟨no,f.pc,⟨0,0,0,0,0⟩,f.agK,3,0,0,0,0,2,0,false,false⟩:Ent)])).map enL) 17))) (Au enL (agI.take agI.length) ([(⟨no,f.pc,⟨0,0,0,0,0⟩,f.agK,3,0,0,0,0,2,0,false,false⟩:Ent)]) omT) (⟨by exact omT,by exact omT,trivial,trivial⟩) ?_;have e:(⟨no,f.pc,⟨0,0,0,0,0⟩,f.agK,3,0,0,0,0,2,0,false,false⟩:Ent)=qB no f prog:=by unfold qB;rw[dZ (sI h1),af1 (by have q:=Cl (fetchW prog f.pc);omega)];rfl
  refine dK rfl (by show 0+(agI.length+1)<=(((agI.take agI.length)++([(⟨no,f.pc,⟨0,0,0,0,0⟩,f.agK,3,0,0,0,0,2,0,false,false⟩:Ent)])).map enL).length;exact omT) rfl ?_;show AV.sl 17 (List.take (agI.length+1) (List.drop 0 (((agI.take agI.length)++([(⟨no,f.pc,⟨0,0,0,0,0⟩,f.agK,3,0,0,0,0,2,0,false,false⟩:Ent)])).map enL))) false=_;rw[jW enL ((agI.take agI.length)++([(⟨no,f.pc,⟨0,0,0,0,0⟩,f.agK,3,0,0,0,0,2,0,false,false⟩:Ent)])) omT];rw[e,cH]
 have h3p:=wN h3;refine zVB (((decN (fetchW prog f.pc)).op)==47) (λh5=>?_) (λh5=>?_)
 ·have h5p:=mT h5;refine zVB (6 != 0) (λ_=>?_) (λh6=>by exact absurd h6 dT);refine zR<|zW (vN agI.length) (cD enL agI)<|zW (vN agI.length) (cD enL agI)<|zM (.sl 17 ((agI.take agI.length).map enL) true) (yB (vY enL agI agI.length)) (by refine⟨?_,?_,?_,?_⟩;all_goals (first|exact aG _|decide|(apply FG.2;exact omT)|(show(_:Int)=(_:Int);congr 1;omega)|rfl))<|zV (.sl 17 ([[vI no,vU f.pc,vI ((decN (fetchW prog f.pc)).op),vI ((decN (fetchW prog f.pc)).rd),vI ((decN (fetchW prog f.pc)).ag0),vI ((decN (fetchW prog f.pc)).ag1),vU ((decN (fetchW prog f.pc)).agR),vU f.agK,vI 3,vI 0,zU,zU,zU,vI 6,vI 0,vB false,vB false]]) true)<|zF (x:=.osl 55 0 (agI.length+1) false) (h':=upd _ 55 (some (.arr (((agI.take agI.length)++([(⟨no,f.pc,decN (fetchW prog f.pc),f.agK,3,0,0,0,0,6,0,false,false⟩:Ent)])).map enL) 17))) (Au enL (agI.take agI.length) ([(⟨no,f.pc,decN (fetchW prog f.pc),f.agK,3,0,0,0,0,6,0,false,false⟩:Ent)]) omT) (⟨by exact omT,by exact omT,trivial,trivial⟩) ?_;have e:(⟨no,f.pc,decN (fetchW prog f.pc),f.agK,3,0,0,0,0,6,0,false,false⟩:Ent)=qB no f prog:=by unfold qB;rw[dZ (sI h1),dZ ((Cl _).1 h3p),af1 h5p];rfl
  refine dK rfl (by show 0+(agI.length+1)<=(((agI.take agI.length)++([(⟨no,f.pc,decN (fetchW prog f.pc),f.agK,3,0,0,0,0,6,0,false,false⟩:Ent)])).map enL).length;exact omT) rfl ?_;show AV.sl 17 (List.take (agI.length+1) (List.drop 0 (((agI.take agI.length)++([(⟨no,f.pc,decN (fetchW prog f.pc),f.agK,3,0,0,0,0,6,0,false,false⟩:Ent)])).map enL))) false=_;rw[jW enL ((agI.take agI.length)++([(⟨no,f.pc,decN (fetchW prog f.pc),f.agK,3,0,0,0,0,6,0,false,false⟩:Ent)])) omT];rw[e,cH]
 have h5p:=nA h5;refine zVB (((decN (fetchW prog f.pc)).op)==48) (λh7=>?_) (λh7=>?_)
 ·have h7p:=mT h7;refine zVB (7 != 0) (λ_=>?_) (λh8=>by exact absurd h8 dT);refine zR<|zW (vN agI.length) (cD enL agI)<|zW (vN agI.length) (cD enL agI)<|zM (.sl 17 ((agI.take agI.length).map enL) true) (yB (vY enL agI agI.length)) (by refine⟨?_,?_,?_,?_⟩;all_goals (first|exact aG _|decide|(apply FG.2;exact omT)|(show(_:Int)=(_:Int);congr 1;omega)|rfl))<|zV (.sl 17 ([[vI no,vU f.pc,vI ((decN (fetchW prog f.pc)).op),vI ((decN (fetchW prog f.pc)).rd),vI ((decN (fetchW prog f.pc)).ag0),vI ((decN (fetchW prog f.pc)).ag1),vU ((decN (fetchW prog f.pc)).agR),vU f.agK,vI 3,vI 0,zU,zU,zU,vI 7,vI 0,vB false,vB false]]) true)<|zF (x:=.osl 57 0 (agI.length+1) false) (h':=upd _ 57 (some (.arr (((agI.take agI.length)++([(⟨no,f.pc,decN (fetchW prog f.pc),f.agK,3,0,0,0,0,7,0,false,false⟩:Ent)])).map enL) 17))) (Au enL (agI.take agI.length) ([(⟨no,f.pc,decN (fetchW prog f.pc),f.agK,3,0,0,0,0,7,0,false,false⟩:Ent)]) omT) (⟨by exact omT,by exact omT,trivial,trivial⟩) ?_;have e:(⟨no,f.pc,decN (fetchW prog f.pc),f.agK,3,0,0,0,0,7,0,false,false⟩:Ent)=qB no f prog:=by unfold qB;rw[dZ (sI h1),dZ ((Cl _).1 h3p),dZ h5p,af1 h7p];rfl
  refine dK rfl (by show 0+(agI.length+1)<=(((agI.take agI.length)++([(⟨no,f.pc,decN (fetchW prog f.pc),f.agK,3,0,0,0,0,7,0,false,false⟩:Ent)])).map enL).length;exact omT) rfl ?_;show AV.sl 17 (List.take (agI.length+1) (List.drop 0 (((agI.take agI.length)++([(⟨no,f.pc,decN (fetchW prog f.pc),f.agK,3,0,0,0,0,7,0,false,false⟩:Ent)])).map enL))) false=_;rw[jW enL ((agI.take agI.length)++([(⟨no,f.pc,decN (fetchW prog f.pc),f.agK,3,0,0,0,0,7,0,false,false⟩:Ent)])) omT];rw[e,cH]
 have h7p:=nA h7;refine zVB (0 != 0) (λh9=>by exact absurd h9 dT) (λ_=>?_);refine zR<|zW (vN agI.length) (cD enL agI)<|zW (vN agI.length) (cD enL agI)<|zM (.sl 17 ((agI.take agI.length).map enL) true) (yB (vY enL agI agI.length)) (by refine⟨?_,?_,?_,?_⟩;all_goals (first|exact aG _|decide|(apply FG.2;exact omT)|(show(_:Int)=(_:Int);congr 1;omega)|rfl))<|zV (.sl 17 ([[vI no,vU f.pc,vI ((decN (fetchW prog f.pc)).op),vI ((decN (fetchW prog f.pc)).rd),vI ((decN (fetchW prog f.pc)).ag0),vI ((decN (fetchW prog f.pc)).ag1),vU ((decN (fetchW prog f.pc)).agR),vU f.agK,vI 0,vI 0,zU,zU,zU,vI 0,vI 0,vB false,vB false]]) true)<|zF (x:=.osl 53 0 (agI.length+1) false) (h':=upd _ 53 (some (.arr (((agI.take agI.length)++([(⟨no,f.pc,decN (fetchW prog f.pc),f.agK,0,0,0,0,0,0,0,false,false⟩:Ent)])).map enL) 17))) (Au enL (agI.take agI.length) ([(⟨no,f.pc,decN (fetchW prog f.pc),f.agK,0,0,0,0,0,0,0,false,false⟩:Ent)]) omT) (⟨by exact omT,by exact omT,trivial,trivial⟩) ?_;have e:(⟨no,f.pc,decN (fetchW prog f.pc),f.agK,0,0,0,0,0,0,0,false,false⟩:Ent)=qB no f prog:=by unfold qB;rw[dZ (sI h1),dZ ((Cl _).1 h3p),dZ h5p,dZ h7p];rfl
 refine dK rfl (by show 0+(agI.length+1)<=(((agI.take agI.length)++([(⟨no,f.pc,decN (fetchW prog f.pc),f.agK,0,0,0,0,0,0,0,false,false⟩:Ent)])).map enL).length;exact omT) rfl ?_;show AV.sl 17 (List.take (agI.length+1) (List.drop 0 (((agI.take agI.length)++([(⟨no,f.pc,decN (fetchW prog f.pc),f.agK,0,0,0,0,0,0,0,false,false⟩:Ent)])).map enL))) false=_;rw[jW enL ((agI.take agI.length)++([(⟨no,f.pc,decN (fetchW prog f.pc),f.agK,0,0,0,0,0,0,0,false,false⟩:Ent)])) omT];rw[e,cH]
def WW(c)(nb)(hm:c.okM nb)(kS)(xS)(kT)(xT):pM C0.P C0.G 22 [.ptr 0 0] (heapF [(0,.box (mcX c (.sl 17 (c.agI.map enL) false) (.sl 2 (c.agH.map ftL) true) (.sl 2 xS kS) (.sl 9 xT kT)))]) 1 (λx h'=>x=.tup []∧h'=heapF [(0,.box (mcX (lP c) (.sl 17 ((lP c).agI.map enL) false) (.sl 2 ((lP c).agH.map ftL) true) (.sl 2 xS kS) (.sl 9 xT kT)))]):=by
 refine hZ 1 func22 rfl ?_;obtain⟨W,hW,hW2⟩:∃W:Nat,c.agL.agN=(W:Int)∧W<=2:=⟨c.agL.agN.toNat,oH (pD hm.cf),oH (pD hm.cf)⟩;refine zVB (c.halt != 0) (λh1=>?_) (λh1=>?_)
 ·have h1p:=wM h1;have e:lP c=c:=af1 h1p;rw[e];exact fHu
 have h1p:=wN h1;refine zLK (λz_=>match z_ with|(k,d,false)=>⟨slotsF [(0,.ptr 0 0),(7,vB (c.halt != 0)),(13,vI c.agL.agN),(14,vN k)],heapF [(0,.box (mcX d (.sl 17 (d.agI.map enL) false) (.sl 2 (d.agH.map ftL) true) (.sl 2 xS kS) (.sl 9 xT kT)))],14⟩|(k,d,true)=>⟨slotsF [(0,.ptr 0 0),(7,vB (c.halt != 0)),(13,vI c.agL.agN),(14,vN k)],heapF [(0,.box (mcX d (.sl 17 (d.agI.map enL) false) (.sl 2 (d.agH.map ftL) true) (.sl 2 xS kS) (.sl 9 xT kT)))],14⟩) (λz_=>match z_ with|(k,d,_)=>k<=W∧d.okM nb∧kV (W-k) d=kV W c) (λz_=>W-z_.1) (0,c,false) (λs=>s) (wOL (λs=>s) wT wH rfl) rfl (⟨aE _,hm,rfl⟩) ?_;intro z_ hk;obtain⟨k,d,b_⟩:=z_;cases b_
 all_goals
  have hkn:k<=W:=hk.1;have hkB:k<=2:=oT;have hd:d.okM nb:=hk.2.1;have hG:kV (W-k) d=kV W c:=hk.2.2;refine zVB (decide ((k:Int)<c.agL.agN)) (λh2=>?_) (λh2=>?_)
  ·have h2p:=af0 h2;refine zR<|zW _ (cD enL d.agI)<|zV (vB (decide (((d.agI.length:Nat):Int)>=d.agL.agI)))<|zG rfl id<|zG rfl id<|zG rfl id<|zG rfl id<|zAS rfl id (cD ftL d.agH)<|zAS rfl id (okB (eqN _ _))<|zN rfl (by simp)<|zB rfl (λh3=>?_) (λh3=>?_)
   ·have hst:((d.agI.length:Int)>=d.agL.agI∨d.agH.length=0):=by have z:=h3;simpa [c2o]using z
    have e0:lP c=kV W c:=by show(if c.halt≠0 then c else kV c.agL.agN.toNat c)=_;rw[dZ (λq=>q h1p),hW];rfl
    have e:lP c=d:=by rw[e0, <-hG];exact Ap hst
    rw[e];exact fHu
   have hst: ¬((d.agI.length:Int)>=d.agL.agI∨d.agH.length=0):=by have z:=h3;simpa [c2o]using z
   have hrl:d.agI.length<=7:=oH (pD hd.cf);have hfl:0<d.agH.length:=oT;refine cRg<|oR 16 rfl ?_;obtain⟨f,hf⟩:∃y_,d.agH[0]?=some y_:=⟨_,aA omT⟩;have hfo:=hd.ok.feto f (aB hf);refine FO (ftL f) rfl rfl rfl (⟨dT,iH hf⟩) rfl<|oR 6 rfl<|rCi rfl (VI d.agI false d.next f d.prog hd.agI hd.ok.agX hfo hd.ok.progo (oH hd.prog))<|oR 3 rfl<|rSt rfl<|rE 65<|qX 0 rfl<|rW _ rfl (okI (w64 _))<|qRN 0 rfl<|rSt rfl<|qR 0 rfl<|nW _ rfl (yB (Kr ftL d.agH 1)) slT<|qRN 0 rfl<|rSt rfl ?_;have b1:k+1<=3:=aD hkB (aC 1);refine qR 0 rfl<|zW _ (okI (bH b1 rfl))<|.mk _ (.refl _) ⟨(k+1,Kh d f,false),λi=>i,wOL _ wT wH rfl,rfl,⟨oT,CV hd hfo omT,(CU omT (λq=>hst (.inl q)) hf).trans hG⟩,by show W-(k+1)<W-k;omega⟩
  have h2p:=aF h2;have e0:lP c=kV W c:=by show(if c.halt≠0 then c else kV c.agL.agN.toNat c)=_;rw[dZ (λq=>q h1p),hW];rfl
  have e:lP c=d:=by rw[e0, <-hG];rw[(oT:W-k=0)];rfl
  rw[e];exact fHu
def yX(c:Co)(i:Nat)(e:Ent):(setE c i e).agI.length=c.agI.length:=cC ..
def VG{e:Ent}(h:e.ok):({e with is:=2}:Ent).ok:=⟨h.pc,h.agR,h.agK,h.value,h.next,h.agZ⟩
def WV{c:Co}{n i:Nat}{e:Ent}(h:c.okM n)(he:c.agI[i]?=some e):e.ok:=h.ok.agX e (aB he)
def OG{c}{n}(h:c.okM n)(hb:n+1<=890000)(i):(oE c i).okM (n+1)∧(oE c i).agI.length=c.agI.length∧(oE c i).halt=c.halt∧(oE c i).agF=c.agF∧(oE c i).agH=c.agH∧(oE c i).agG=c.agG:=by
 have h1:c.okM _:=h.mono (fF _) hb;unfold oE
 cases hx:c.agI[i]? with
 |none=>exact⟨h1,rfl,rfl,rfl,rfl,rfl⟩
 |some e=>
  have he:=WV h hx;dsimp only
  repeat' split
  ·exact⟨h1,rfl,rfl,rfl,rfl,rfl⟩
  ·exact⟨xA h1 i (Il he _),yX ..,rfl,rfl,rfl,rfl⟩
  ·exact⟨h1,rfl,rfl,rfl,rfl,rfl⟩
  ·exact⟨xA h1 i (Il he _),yX ..,rfl,rfl,rfl,rfl⟩
  ·exact⟨xA h1 i (VG he),yX ..,rfl,rfl,rfl,rfl⟩
  ·exact⟨xA (sH h hb 1 (dV he.agZ) oZ) i (VG he),yX ..,rfl,rfl,rfl,rfl⟩
  ·exact⟨h1,rfl,rfl,rfl,rfl,rfl⟩
def yY{c}{n}(h:c.okM n)(hb:n+1<=890000)(i):(iS c i).okM (n+1)∧(iS c i).agI.length=c.agI.length∧(iS c i).halt=c.halt∧(iS c i).agF=c.agF∧(iS c i).agH=c.agH∧(iS c i).agG=c.agG:=by
 have h1:c.okM _:=h.mono (fF _) hb;unfold iS
 cases hx:c.agI[i]? with
 |none=>exact⟨h1,rfl,rfl,rfl,rfl,rfl⟩
 | some e=>
  have he:=WV h hx;have hB:=Cj h.ok.agX h.ok.r i;dsimp only;split
  ·exact⟨xA h1 i (Ik he _ _),yX ..,rfl,rfl,rfl,rfl⟩
  ·split
   ·have hl:=OG (xA h i (Ik he c.mem.size (mI c.agI c.r i).1)) hb i;exact⟨hl.1,hl.2.1.trans (yX ..),hl.2.2.1,hl.2.2.2.1,hl.2.2.2.2.1,hl.2.2.2.2.2⟩
   ·exact⟨xA h1 i (QG he hB.1 hB.2),yX ..,rfl,rfl,rfl,rfl⟩
theorem Qw{agN:Int}{busy:Bool}{kinds:List Int}{can:List Bool}:∀k,∀i∈(kA agN busy kinds can k).out,i<k
 |0,i,h=>by simp[kA]at h
 | k+1,i,h=>by
  have ih:=Qw (agN:=agN) (busy:=busy) (kinds:=kinds) (can:=can) k;unfold kA IW at h
  repeat' split at h
  all_goals first
   |exact mW (ih i h)
   |(simp only[al_List_mem_append,uJ]at h;exact h.elim (λh=>mW (ih i h)) (λh=>by omega))
theorem VH{agN:Int}{busy:Bool}{kinds:List Int}{can:List Bool}(hw:0<=agN):∀k,((kA agN busy kinds can k).out.length:Int)<=agN
 |0=>by simpa [kA]using hw
 | k+1=>by
  have ih:=VH (agN:=agN) (busy:=busy) (kinds:=kinds) (can:=can) hw k;unfold kA IW
  repeat' split
  all_goals first
   |exact ih
   |(simp only[aU,kG];push_cast;omega)
def MQ{α}{f}{l:List α}{k}{x}(h:l[k]?=some x):(l.take (k+1)).any f=((l.take k).any f||f x):=by
 rw[bW,h,List.any_append];simp
def rH(c:Co)(k:Nat):List Int:=(c.agI.take k).map (λe=>(kindOf e.i.op:Int))++List.replicate (c.agI.length-k) 0
def xI(c:Co)(k:Nat):List Bool:=(List.range k).map (DN c)++List.replicate (c.agI.length-k) false
def GK{c}{k}(h:k<=c.agI.length):(rH c k).length=c.agI.length:=by unfold rH;simp;omega
def EU{c}{k}(h:k<=c.agI.length):(xI c k).length=c.agI.length:=by unfold xI;simp;omega
def MR{α}{a}{z x:α}{n k}(ha:a.length=k)(hn:0<n):(a++List.replicate n z).set k x=(a++[x])++List.replicate (n-1) z:=by
 subst ha;obtain⟨m,rfl⟩:∃m,n=m+1:=⟨n-1,oT⟩;rw[iN _ _ (aC _),eK,List.replicate_succ,gM];simp
def GL{c}{k}{x}(hx:c.agI[k]?=some x):(rH c k).set k (kindOf x.i.op:Int)=rH c (k+1):=by
 have hk:=(Em.1 hx).1;unfold rH;rw[MR (by simp;omega) omT,bW,hx,Nat.sub_sub];simp
def Kg{c}{k}(hk:k<c.agI.length):(xI c k).set k (DN c k)=xI c (k+1):=by
 unfold xI;rw[MR (by simp) omT,gZ,Nat.sub_sub];simp
def OH(c):rH c c.agI.length=Fi c:=by unfold rH Fi;simp
def Qx(c):xI c c.agI.length=Kv c:=by unfold xI Kv;simp
def LK{c}{n}(h:c.agI.length=n):List.replicate n (0:Int)=rH c 0:=by subst h;rfl
def OI{c}{n}(h:c.agI.length=n):List.replicate n false=xI c 0:=by subst h;rfl
def GM{α β}{f}{l:List α}{j}{x}{d:β}(h:l[j]?=some x):(l.drop (j+1)).foldl f (f d x)=(l.drop j).foldl f d:=by
 obtain⟨hj,rfl⟩:=Em.1 h;rw[bF hj];rfl
def Ao{c}{k}(hm:wA c.agL=true)(hh: ¬c.halt≠0)(hk:k=c.agI.length):∃p,pickOf c.agL.agN ((c.agI.take k).any IE) (rH c k) (xI c k)=p∧gY c=p.foldl iS c∧(∀i∈p,i<c.agI.length)∧p.length<=2:=by
 subst hk;have hw:=pD hm;refine⟨_,rfl,?_,λi hi=>?_,?_⟩
 ·rw[OH,Qx,cH];exact dZ hh
 ·have:=Qw _ i hi
  rwa [EU (aC _)]at this
 have:=VH (agN:=c.agL.agN) (busy:=(c.agI.take c.agI.length).any IE) (kinds:=rH c c.agI.length) (can:=xI c c.agI.length) omT (xI c c.agI.length).length;unfold pickOf;omega
def WU(c)(nb)(hm:c.okM nb)(hb:nb+3<=890000)(A B)(lo n)(kR kF kS kT)(xF xT)(hlo:A.length=lo)(hn:c.agI.length=n)(hA:A.length+n+B.length<=1000):pM C0.P C0.G 21 [.ptr 0 0] (heapF [(0,.box (mcX c (.osl 1 lo n kR) (.sl 2 xF kF) (.sl 2 (c.agF.map ptL) kS) (.sl 9 xT kT))),(1,.arr ((A++c.agI++B).map enL) 17)]) 2 (λx h'=>x=.tup []∧h'=heapF [(0,.box (mcX (gY c) (.osl 1 lo n kR) (.sl 2 xF kF) (.sl 2 ((gY c).agF.map ptL) kS) (.sl 9 xT kT))),(1,.arr ((A++(gY c).agI++B).map enL) 17)]):=by
 refine hI 2 func21 ?_;refine uR<|cSR<|oR 5 rfl<|rV (vB (c.halt != 0)) rfl<|rE 8<|aV rfl (λh1=>?_) (λh1=>?_)
 ·have h1p:=wM h1;refine FQ ?_;have e:gY c=c:=af1 h1p;rw[e];exact fHu
 have h1p:=wN h1;refine mF<|cSR<|oR 1 rfl<|rE 9<|cSR<|oR 5 rfl<|rV (vN n) rfl<|rFx (x:=.osl 15 0 n false) (h':=upd _ 15 (some (.arr ((List.replicate n 0).map ae4) 1))) rfl rfl (Ri (fH (f:=ae4) (a:=0)).symm) (⟨aG _,FG.2 omT,by show(n:Int)<=1000000;omega⟩)<|oR 1 rfl<|rE 17<|cSR<|oR 5 rfl<|rV (vN n) rfl<|rFx (x:=.osl 23 0 n false) (h':=upd _ 23 (some (.arr ((List.replicate n false).map afU) 1))) rfl rfl (Ri (fH (f:=afU) (a:=false)).symm) (⟨aG _,FG.2 omT,by show(n:Int)<=1000000;omega⟩)<|oR 1 rfl<|rE 25<|FP<|cSR<|oR 5 rfl<|rV (vN n) rfl<|oR 1 rfl<|rE 32<|kO<|sX (κ:=Nat) (λk=>⟨slotsF [(0,.ptr 0 0),(14,vB (c.halt != 0)),(3,.osl 15 0 n false),(4,.osl 23 0 n false),(33,.osl 1 lo n kR),(34,vN n),(2,vB ((c.agI.take k).any IE)),(35,vN k)],heapF [(0,.box (mcX c (.osl 1 lo n kR) (.sl 2 xF kF) (.sl 2 (c.agF.map ptL) kS) (.sl 9 xT kT))),(1,.arr ((A++c.agI++B).map enL) 17),(15,.arr ((rH c k).map ae4) 1),(23,.arr ((xI c k).map afU) 1)],32⟩) (λk=>k<=n) (λk=>n-k) 0 (λs=>s) (wOL (λs=>s) wT ⟨⟨rfl,rfl,rfl⟩,⟨rfl,rfl,rfl⟩,⟨rfl,(af2 (λz:List Int=>some (Blk.arr (z.map ae4) 1)) (LK hn)),rfl⟩,⟨rfl,(af2 (λz:List Bool=>some (Blk.arr (z.map afU) 1)) (OI hn)),rfl⟩,trivial⟩ rfl) rfl (aE _) ?_;intro k hk;have hkn:k<=n:=hk;have hkB:k<=1000:=oH hm.agI;have hkl1:(rH c k).length=n:=(GK omT).trans hn;have hkl2:(xI c k).length=n:=(EU omT).trans hn;refine cSR<|rW (vB (decide (k<n))) rfl (okB (ltN _ _))<|rE 33<|uR<|aV rfl (λh2=>?_) (λh2=>?_)
 ·have h2p:=af0 h2;refine mF<|uR<|kO<|cSR<|oR 1 rfl<|nW (.ptr2 1 (lo+k) 0) rfl rfl ixT ?_;obtain⟨x,hx⟩:∃y_,c.agI[k]?=some y_:=⟨_,aA omT⟩;have hxo:=hm.ok.agX x (aB hx);refine rIx (enL x) (.agg (enL x)) rfl rfl (iH (jK hlo hx)) rfl<|rAl 36 rfl rfl<|oR 1 rfl<|rSt rfl<|rE 39<|cSR<|oR 4 rfl<|rCi rfl (pS x.i)<|nW (.ptr2 15 (0+k) 0) rfl rfl ixT ?_;obtain⟨x1,hx1⟩:∃y_,(rH c k)[k]?=some y_:=⟨_,aA omT⟩;have hx2:((rH c k).set k (kindOf x.i.op:Int))[k]?=some (kindOf x.i.op:Int):=aZ omT;refine nM (ae4 x1) rfl rfl rfl (⟨aG _,Jv (iH hx1)⟩) (vX (x:=(kindOf x.i.op:Int)))<|rE 46<|cSR<|oR 4 rfl<|fU _ rfl rfl rfl (pM.of_dcall (C:=C0) (show bI C0 73 [.dp 64 0 (mcX c (.sl 17 (List.take n (List.drop lo ((A++c.agI++B).map enL))) kR) (.sl 2 xF kF) (.sl 2 (c.agF.map ptL) kS) (.sl 9 xT kT)),vN k] _ from by rw[tV (l:=c.agI) hlo (by first|exact hn|(rw[cC];exact hn)|(simp only[cC];exact hn))];exact Zs c nb hm (.sl 2 xF kF) (.sl 2 (c.agF.map ptL) kS) (.sl 9 xT kT) kR k omT) (by rfl) (by exact⟨⟨rfl,(r4 (r4 (r4 (r4 (r4 (r4 (r4 (r4 (r4 (r4 (r4 (r4 ⟨(by show lo+n<=((A++c.agI++B).map enL).length;simp only[aH,aU,cC];omega),tvT⟩))))))))))))⟩,trivial,trivial⟩) (by rfl)) ?_;rintro _ _ ⟨rfl,rfl⟩;refine nW (.ptr2 23 (0+k) 0) rfl rfl ixT ?_;obtain⟨x3,hx3⟩:∃y_,(xI c k)[k]?=some y_:=⟨_,aA omT⟩;have hx4:((xI c k).set k (DN c k))[k]?=some (DN c k):=aZ omT;refine nM (afU x3) rfl rfl rfl (⟨aG _,Jv (iH hx3)⟩) (vX)<|rE 53<|cSR<|oR 2 rfl<|nW (.ptr2 15 (0+k) 0) rfl rfl ixT<|rIx (ae4 (kindOf x.i.op:Int)) (vN (kindOf x.i.op)) rfl rfl (Jv (iH hx2)) rfl<|rW (vB ((kindOf x.i.op)==2)) rfl (okB (eqN _ _))<|oR 1 rfl<|gN rfl<|gS rfl id<|gBS rfl id rfl<|bO rfl rfl rfl (λh=>h)<|rE 63<|aV rfl (λh3=>?_) (λh3=>?_)
  ·refine cRg<|oR 1 rfl<|rE 64<|cRg ?_;have b1:k+1<=1001:=aD hkB (aC 1);refine rW (vN (k+1)) rfl (okI (bH b1 rfl))<|oR 1 rfl<|rE 66<|.mk _ (.refl _) ⟨k+1,λs=>s,wOL _ ⟨⟨rfl,rfl⟩,⟨rfl,rfl⟩,⟨rfl,rfl⟩,⟨rfl,rfl⟩,⟨rfl,rfl⟩,⟨rfl,rfl⟩,⟨(dR (by rw[MQ hx];have z:=h3;simp_all[c2a,IE])),rfl⟩,⟨rfl,rfl⟩,trivial⟩ ⟨⟨rfl,rfl,rfl⟩,⟨rfl,rfl,rfl⟩,⟨rfl,(af2 (λz:List Int=>some (Blk.arr (z.map ae4) 1)) (GL hx)),rfl⟩,⟨rfl,(af2 (λz:List Bool=>some (Blk.arr (z.map afU) 1)) (Kg omT)),rfl⟩,trivial⟩ rfl,rfl,oT,by show n-(k+1)<n-k;omega⟩
  refine mF<|cRg ?_;have b2:k+1<=1001:=aD hkB (aC 1);refine rW (vN (k+1)) rfl (okI (bH b2 rfl))<|oR 1 rfl<|rE 65<|.mk _ (.refl _) ⟨k+1,λs=>s,wOL _ ⟨⟨rfl,rfl⟩,⟨rfl,rfl⟩,⟨rfl,rfl⟩,⟨rfl,rfl⟩,⟨rfl,rfl⟩,⟨rfl,rfl⟩,⟨(dR (by rw[MQ hx];have z:=h3;simp_all[c2a,IE])),rfl⟩,⟨rfl,rfl⟩,trivial⟩ ⟨⟨rfl,rfl,rfl⟩,⟨rfl,rfl,rfl⟩,⟨rfl,(af2 (λz:List Int=>some (Blk.arr (z.map ae4) 1)) (GL hx)),rfl⟩,⟨rfl,(af2 (λz:List Bool=>some (Blk.arr (z.map afU) 1)) (Kg omT)),rfl⟩,trivial⟩ rfl,rfl,oT,by show n-(k+1)<n-k;omega⟩
 have h2p:=aF h2;obtain⟨p,hp,hP,hpl,hp2⟩:=Ao (k:=k) hm.cf (λq=>q h1p) omT;refine Bh<| .mk _ (.step (some (15,1,(rH c k).map ae4)) (gOL (l:=[(0,.ptr 0 0),(14,vB (c.halt != 0)),(3,.sl 1 ((rH c k).map ae4) false),(4,.osl 23 0 n false),(2,vB ((c.agI.take k).any IE)),(36,vB (decide (k<n)))]) (hp:=[(0,.box (mcX c (.osl 1 lo n kR) (.sl 2 xF kF) (.sl 2 (c.agF.map ptL) kS) (.sl 9 xT kT))),(1,.arr ((A++c.agI++B).map enL) 17),(23,.arr ((xI c k).map afU) 1)]) rfl rfT rbT) (.step (some (23,1,(xI c k).map afU)) (gOL (l:=[(0,.ptr 0 0),(14,vB (c.halt != 0)),(3,.sl 1 ((rH c k).map ae4) false),(4,.sl 1 ((xI c k).map afU) false),(2,vB ((c.agI.take k).any IE)),(36,vB (decide (k<n)))]) (hp:=[(0,.box (mcX c (.osl 1 lo n kR) (.sl 2 xF kF) (.sl 2 (c.agF.map ptL) kS) (.sl 9 xT kT))),(1,.arr ((A++c.agI++B).map enL) 17)]) rfl rfT rbT) (.refl _)))<|cSR<|oR 9 rfl<|rCl (x:=.sl 1 (p.map RP) false) rfl (.inl rfl) ((by rw[<-hp];exact aaL c.agL.agN ((c.agI.take k).any IE) (rH c k) (xI c k) false false (by rw[GK omT];exact hm.agI) (by rw[EU omT];exact hm.agI)))<|rW (vN p.length) rfl (cD RP p)<|oR 1 rfl<|rE 45<|kO<|sX (κ:=Nat×Co×Bool) (λz_=>match z_ with|(j,d,false)=>⟨slotsF [(0,.ptr 0 0),(14,vB (c.halt != 0)),(36,vB (decide (k<n))),(72,.sl 1 (p.map RP) false),(73,vN p.length),(74,vN j)],heapF [(0,.box (mcX d (.osl 1 lo n kR) (.sl 2 xF kF) (.sl 2 (d.agF.map ptL) kS) (.sl 9 xT kT))),(1,.arr ((A++d.agI++B).map enL) 17)],45⟩|(j,d,true)=>⟨slotsF [(0,.ptr 0 0),(14,vB (c.halt != 0)),(36,vB (decide (k<n))),(72,.sl 1 (p.map RP) false),(73,vN p.length),(74,vN j)],heapF [(0,.box (mcX d (.osl 1 lo n kR) (.sl 2 xF kF) (.sl 2 (d.agF.map ptL) kS) (.sl 9 xT kT))),(1,.arr ((A++d.agI++B).map enL) 17)],45⟩) (λz_=>match z_ with|(j,d,_)=>j<=p.length∧d.okM (nb+j)∧d.agI.length=n∧(p.drop j).foldl iS d=gY c) (λz_=>p.length-z_.1) (0,c,false) (λs=>s) (wOL (λs=>s) wT wH rfl) rfl (⟨aE _,hm,hn,hP.symm⟩) ?_;intro z_ hj;obtain⟨j,d,b_⟩:=z_;cases b_
 ·have hjn:j<=p.length:=hj.1;have hjB:j<=2:=oT;have hd:d.okM (nb+j):=hj.2.1;have hdn:d.agI.length=n:=hj.2.2.1;have hG:(p.drop j).foldl iS d=gY c:=hj.2.2.2;refine cSR<|rW (vB (decide (j<p.length))) rfl (okB (ltN _ _))<|rE 46<|uR<|aV rfl (λh4=>?_) (λh4=>?_)
  ·have h4p:=af0 h4;refine mF<|uR<|kO<|cSR ?_;obtain⟨x,hx⟩:∃y_,p[j]?=some y_:=⟨_,aA omT⟩;have hxo:=hpl x (aB hx);have hs:=yY hd omT x;refine rIx (RP x) (.dp 1 0 (RP x)) rfl rfl (iH hx) rfl<|oR 2 rfl<|rE 49<|cRg<|oR 2 rfl<|fU _ rfl rfl rfl ((VJ d (nb+j) hd x (oH hxo) A B lo n kR kF kS kT xF xT hlo hdn hA).fB2 (λz=>z)) ?_;rintro _ _ ⟨rfl,rfl⟩;refine rE 52<|cRg ?_;have b3:j+1<=3:=aD hjB (aC 1);refine rW (vN (j+1)) rfl (okI (bH b3 rfl))<|oR 1 rfl<|rE 54<|.mk _ (.refl _) ⟨(j+1,iS d x,false),λi=>i,wOL _ wT ⟨⟨rfl,(af2 (λz:List Pt=>some (Blk.box (mcX (iS d x) (.osl 1 lo n kR) (.sl 2 xF kF) (.sl 2 (z.map ptL) kS) (.sl 9 xT kT)))) hs.2.2.2.1.symm),rfl⟩,⟨rfl,rfl,rfl⟩,trivial⟩ rfl,rfl,⟨oT,hs.1,hs.2.1.trans hdn,(GM hx).trans hG⟩,by show p.length-(j+1)<p.length-j;omega⟩
  have h4p:=aF h4;refine Bh ?_;have e:gY c=d:=by rw[<-hG,cB omT];rfl
  rw[e];exact fHu
 have hjn:j<=p.length:=hj.1;have hjB:j<=2:=oT;have hd:d.okM (nb+j):=hj.2.1;have hdn:d.agI.length=n:=hj.2.2.1;have hG:(p.drop j).foldl iS d=gY c:=hj.2.2.2;refine cSR<|rW (vB (decide (j<p.length))) rfl (okB (ltN _ _))<|rE 46<|uR<|aV rfl (λh5=>?_) (λh5=>?_)
 ·have h5p:=af0 h5;refine mF<|uR<|kO<|cSR ?_;obtain⟨x,hx⟩:∃y_,p[j]?=some y_:=⟨_,aA omT⟩;have hxo:=hpl x (aB hx);have hs:=yY hd omT x;refine rIx (RP x) (.dp 1 0 (RP x)) rfl rfl (iH hx) rfl<|oR 2 rfl<|rE 49<|cRg<|oR 2 rfl<|fU _ rfl rfl rfl ((VJ d (nb+j) hd x (oH hxo) A B lo n kR kF kS kT xF xT hlo hdn hA).fB2 (λz=>z)) ?_;rintro _ _ ⟨rfl,rfl⟩;refine rE 52<|cRg ?_;have b4:j+1<=3:=aD hjB (aC 1);refine rW (vN (j+1)) rfl (okI (bH b4 rfl))<|oR 1 rfl<|rE 54<|.mk _ (.refl _) ⟨(j+1,iS d x,false),λi=>i,wOL _ wT ⟨⟨rfl,(af2 (λz:List Pt=>some (Blk.box (mcX (iS d x) (.osl 1 lo n kR) (.sl 2 xF kF) (.sl 2 (z.map ptL) kS) (.sl 9 xT kT)))) hs.2.2.2.1.symm),rfl⟩,⟨rfl,rfl,rfl⟩,trivial⟩ rfl,rfl,⟨oT,hs.1,hs.2.1.trans hdn,(GM hx).trans hG⟩,by show p.length-(j+1)<p.length-j;omega⟩
 have h5p:=aF h5;refine Bh ?_;have e:gY c=d:=by rw[<-hG,cB omT];rfl
 rw[e];exact fHu
def TX(c)(nb)(hm:c.okM nb)(h0:c.agI=[])(kF kS kT)(xF xT):pM C0.P C0.G 21 [.ptr 0 0] (heapF [(0,.box (mcX c (.sl 17 [] false) (.sl 2 xF kF) (.sl 2 (c.agF.map ptL) kS) (.sl 9 xT kT)))]) 1 (λx h'=>x=.tup []∧h'=heapF [(0,.box (mcX (gY c) (.sl 17 [] false) (.sl 2 xF kF) (.sl 2 ((gY c).agF.map ptL) kS) (.sl 9 xT kT)))]):=by
 refine hZ 1 func21 rfl<|zVB (c.halt != 0) (λh1=>?_) (λh1=>?_)
 ·have e:gY c=c:=by unfold gY Fi Kv;rw[h0];split<;>rfl
  rw[e];exact fHu
 refine rW _ rfl (vW enL ([]:List Ent) omT)<|zF (rfl) (⟨dT,dT,by show((0:Nat):Int)<=1000000;omega⟩)<|rW _ rfl (vW enL ([]:List Ent) omT)<|rFx rfl rfl (rfl) (⟨dT,dT,by show((0:Nat):Int)<=1000000;omega⟩)<|qRJ 0 0 rfl<|FP<|qS 0 rfl<|zW _ (vW enL ([]:List Ent) omT)<|sX (λk=>⟨slotsF [(0,.ptr 0 0),(14,vB (c.halt != 0)),(3,.osl 14 0 0 false),(4,.osl 22 0 0 false),(33,.sl 17 (([]:List Ent).map enL) false),(34,vN 0),(2,vB false),(35,vN k)],heapF [(0,.box (mcX c (.sl 17 (([]:List Ent).map enL) false) (.sl 2 xF kF) (.sl 2 (c.agF.map ptL) kS) (.sl 9 xT kT))),(14,.arr (([]:List Int).map ae4) 1),(22,.arr (([]:List Bool).map afU) 1)],31⟩) (λk=>k<=0) (λk=>0-k) 0 (λs=>s) (wOL (λs=>s) wT wH rfl) rfl (aE _) ?_;intro k hk;have hkB:k<=1000:=oT;refine qS 0 rfl<|zWB (okB (ltN _ _)) (λh2=>by exact absurd (af0 h2) (dG _)) (λ_=>?_);refine qXF 0 rfl<| .mk _ (.step (some (14,1,([]:List Int).map ae4)) (gOL (l:=[(0,.ptr 0 0),(14,vB (c.halt != 0)),(3,.sl 1 (([]:List Int).map ae4) false),(4,.osl 22 0 0 false),(2,vB false),(36,vB (decide (k<0)))]) (hp:=[(0,.box (mcX c (.sl 17 (([]:List Ent).map enL) false) (.sl 2 xF kF) (.sl 2 (c.agF.map ptL) kS) (.sl 9 xT kT))),(22,.arr (([]:List Bool).map afU) 1)]) rfl rfT rbT) (.step (some (22,1,([]:List Bool).map afU)) (gOL (l:=[(0,.ptr 0 0),(14,vB (c.halt != 0)),(3,.sl 1 (([]:List Int).map ae4) false),(4,.sl 1 (([]:List Bool).map afU) false),(2,vB false),(36,vB (decide (k<0)))]) (hp:=[(0,.box (mcX c (.sl 17 (([]:List Ent).map enL) false) (.sl 2 xF kF) (.sl 2 (c.agF.map ptL) kS) (.sl 9 xT kT)))]) rfl rfT rbT) (.refl _)))<|qC 0 rfl<|rCi rfl (aaL c.agL.agN false [] [] false false dT dT)<|zW _ (vW RP ([]:List Nat) omT)<|sX (κ:=Nat) (λj=>⟨slotsF [(0,.ptr 0 0),(14,vB (c.halt != 0)),(36,vB (decide (k<0))),(72,.sl 1 (([]:List Nat).map RP) false),(73,vN 0),(74,vN j)],heapF [(0,.box (mcX c (.sl 17 (([]:List Ent).map enL) false) (.sl 2 xF kF) (.sl 2 (c.agF.map ptL) kS) (.sl 9 xT kT)))],44⟩) (λj=>j<=0) (λj=>0-j) 0 (λs=>s) (wOL (λs=>s) wT wH rfl) rfl (aE _) ?_;intro j hj;have hjB:j<=1000:=oT;refine qS 0 rfl<|zWB (okB (ltN _ _)) (λh3=>by exact absurd (af0 h3) (dG _)) (λ_=>?_);have e:gY c=c:=by unfold gY Fi Kv;rw[h0];split<;>rfl
 rw[e];exact qXF 0 rfl<|fHu
def VF(s:Nat)(c:Co)(F S T:AV)(h':AH):Prop:=
 (c.agI=[]∧h'=heapF [(0,.box (mcX c (.sl 17 [] false) F S T))])∨
 ∃(b:Nat) (A B:List Ent) (k:Bool),(b=1∧1<s∨b=s)∧A.length+c.agI.length+B.length<=1000∧h'=heapF [(0,.box (mcX c (.osl b A.length c.agI.length k) F S T)),(b,.arr ((A++c.agI++B).map enL) 17)]
def GI{c}{R F S S' T T'}(hS:S=S')(hT:T=T'):some (Blk.box (mcX c R F S T))=some (Blk.box (mcX c R F S' T')):=by rw[hS,hT]
def fE{e}(h:e.ok):(cA e).ok:=by
 have hz:(0:Nat)<=4294967295:=aE _;have hv:(if wr e.i≠0 then e.value else 0)<=4294967295:=by
  split
  ·exact h.value
  ·exact hz
 have ha:(if e.halt=4∨e.halt=5 then e.agZ else 0)<=4294967295:=by
  split
  ·exact h.agZ
  ·exact hz
 unfold cA
 repeat' split
 all_goals first
  |exact⟨h.pc,h.pc,hz,ha⟩
  |exact⟨h.pc,uT _,h.value,h.agZ⟩
  |exact⟨h.pc,uT _,hv,h.agZ⟩
  |exact⟨h.pc,uT _,hv,hz⟩
  |exact⟨h.pc,h.next,hv,hz⟩
  |(refine⟨h.pc,?_,?_,?_⟩<;>first|exact uT _|exact h.next|exact h.pc|exact hz|exact h.value|exact h.agZ)
def Dt{s}(h:(iJ s).isSome=true):s.store=true∧s.halt=0∧(iJ s).getD ⟨0,oZ⟩=⟨s.agZ,oF s.value s.size.toNat⟩:=by
 unfold iJ at h⊢;split at h
 ·cases h
 ·rename_i hq;rw[dZ hq];refine⟨?_,?_,rfl⟩
  ·cases hs:s.store with
   |true=>rfl
   |false=>exact absurd (.inl hs) hq
  ·exact af4 λe=>hq (.inr (.inl e))
def OD{s}(h:s.ok):((iJ s).getD ⟨0,oZ⟩).ok:=by
 unfold iJ;split
 ·exact⟨aE _⟩
 exact⟨h.agZ⟩
def Qv{r}{s}(hr:∀k,r k<=4294967295)(hs:s.ok)(k):lY r s k<=4294967295:=by
 unfold lY;split
 ·unfold setR;split
  ·exact hs.value
  exact hr k
 exact hr k
def OE{g}{pc next}{i}(h:g.ok)(hR:sM g=true)(hpc:pc<=4294967295)(hn:next<=4294967295):(fM g pc next i).ok∧sM (fM g pc next i)=true:=by
 obtain⟨h1,h2,h3⟩:=XM.1 hR;have happ:∀x∈g.rets++[up4 pc],x<=4294967295:=sJ h.ro (sK (uT pc));unfold fM;split
 ·have hs:∀x∈g.agP.set (gO g pc) ⟨pc,next⟩,x.ok:=mem_set h.so ⟨hpc,hn⟩;have hh:(2*g.ag2+(if next≠up4 pc then 1 else 0))%8<8:=aQ _ dT;refine⟨⟨?_,?_,?_,hs,?_⟩,XM.2 ⟨?_,hh,?_⟩⟩
  ·show(g.agP.set _ _).length<=_;rw[cC,h1];decide
  ·dsimp only;repeat' split
   ·rw[bD,aU,kG];omega
   ·rw[aU,kG];omega
   ·rw[oA];omega
   omega
  ·exact aL (Nat.le_of_lt hh) dT
  ·dsimp only;repeat' split
   ·exact Iz happ
   ·exact happ
   ·intro x hx;exact h.ro x (oC _ hx)
   exact h.ro
  ·show(g.agP.set _ _).length=8;rw[cC,h1]
  dsimp only;repeat' split
  ·rename_i q1 q2;rw[bD];rw[aU,kG]at q2⊢;omega
  ·rename_i q1 q2;omega
  ·rw[oA];omega
  exact h3
 exact⟨h,hR⟩
def mN{c}{s}(h:(iJ s).isSome=true):(fZ c s).agF=c.agF++[(iJ s).getD ⟨0,oZ⟩]:=by
 unfold fZ;obtain⟨p,hp⟩:=FH.1 h;rw[hp];rfl
def qO{c}{s}(h:(iJ s).isSome=false):(fZ c s).agF=c.agF:=by
 unfold fZ;have hp:iJ s=none:=sU h;rw[hp]
def Kc{s}:((iJ s).getD ⟨0,oZ⟩).data.size<=4:=by
 unfold iJ;split
 ·exact aE _
 show(oF s.value s.size.toNat).size<=4;rw[mP];omega
def sF{c}{n}{s}(h:c.okM n)(hb:n+1<=890000)(hs:s.ok)(hst:s.store=true->c.agF.length<=999):(fZ c s).okM (n+1):=by
 have hS:(fZ c s).agF.length<=1000∧(∀x∈(fZ c s).agF,x.ok)∧∀x∈(fZ c s).agF,x.data.size<=4:=by
  cases hq:(iJ s).isSome with
  |true=>
   rw[mN hq];have:=hst (Dt hq).1
   exact⟨by simp;omega,sJ h.ok.stoo (sK (OD hs)),λx hx=>(al_List_mem_append.1 hx).elim (h.std x) λhx=>uJ.1 hx ▸ Kc⟩
  |false=>rw[qO hq];exact⟨h.sto,h.ok.stoo,h.std⟩
 have hr:(c.agG++[s]).length<=n+1:=by have:=h.ok.ret;simp;omega
 exact⟨⟨h.ok.agL,h.ok.prog,h.ok.progo,h.ok.r,h.ok.agM,h.ok.fet,h.ok.feto,h.ok.agI,h.ok.agX,aL hS.1 dT,hS.2.1,h.ok.data,h.ok.agO,qJ h.ok.agS,h.ok.buso,h.ok.asked,h.ok.agT,h.ok.mem,h.ok.agK,hr,sJ h.ok.reto (sK hs)⟩,hb,h.cf,h.data,h.agO,h.agK,h.agI,h.fet,hS.1,h.prog,h.mem,hS.2.2⟩
def ET(c:Co)(agY:Nat):Co:={c with data:=(oK c agY).data,agS:=(oK c agY).agS,asked:=(oK c agY).asked}
def uY(c)(agY):ET c agY=oK c agY:=by
 unfold ET oK;generalize iQ c.data c.agS c.mem agY _=t;obtain⟨d,q,a⟩:=t;rfl
def Bm(d:Co)(e:Ent):Co:={fZ d (cA e)with r:=lY d.r (cA e),agK:=fM d.agK (cA e).pc (cA e).next e.i,agI:=d.agI.drop 1}
def MP(d:Co)(e:Ent):Co:={ET (fZ d (cA e)) (cA e).agZ with r:=lY d.r (cA e),agK:=fM d.agK (cA e).pc (cA e).next e.i,agI:=d.agI.drop 1}
def mG{d}{n}(h:d.halt≠0∨d.agI.length=0):eC n d=d:=by
 cases n with
 |zero=>rfl
 | succ n=>
  unfold eC;by_cases h1:d.halt≠0
  ·exact af1 h1
  ·rw[dZ h1];have hz:d.agI=[]:=afC (h.resolve_left h1);rw[hz]
def iX{d}{n}{e}(hn:0<n)(h: ¬d.halt≠0)(he:d.agI[0]?=some e):eC n d=if e.is≠3 then d else if(cA e).halt≠0 then tM d (cA e)else if(cA e).store=true∧(d.agF.length:Int)>=d.agL.agF then d else eC (n-1) (vZ d e (cA e) (d.agI.drop 1)):=by
 cases n with
 |zero=>cases hn
 |succ n=>
  conv=>lhs;unfold eC
  rw[dZ h]
  cases hz:d.agI with
  |nil=>rw[hz]at he;cases he
  |cons y l=>rw[hz]at he;injection he with he;subst he;rfl
def An{d}{e}(h: ¬kindOf e.i.op=3):vZ d e (cA e) (d.agI.drop 1)=Bm d e:=by
 unfold vZ vG Bm;rw[dZ h]
def Ke{d}{e}(h:kindOf e.i.op=3):vZ d e (cA e) (d.agI.drop 1)=MP d e:=by
 unfold vZ vG MP;rw[af1 h,uY]
def Kf{d x:Co}{n}{e}(hx:x.okM n)(hd:d.okM n)(he:e.ok)(hr:x.agI=d.agI):Co.okM {x with r:=lY d.r (cA e),agK:=fM d.agK (cA e).pc (cA e).next e.i,agI:=d.agI.drop 1} n:=by
 have hs:=fE he;have hg:=OE (i:=e.i) hd.ok.agK hd.agK hs.pc hs.next;have hl:(d.agI.drop 1).length<=1000:=by have:=hd.agI;rw[bD];omega
 exact⟨⟨hx.ok.agL,hx.ok.prog,hx.ok.progo,Qv hd.ok.r hs,hx.ok.agM,hx.ok.fet,hx.ok.feto,aL hl dT,Iz hd.ok.agX,hx.ok.sto,hx.ok.stoo,hx.ok.data,hx.ok.agO,hx.ok.agS,hx.ok.buso,hx.ok.asked,hx.ok.agT,hx.ok.mem,hg.1,hx.ok.ret,hx.ok.reto⟩,hx.nb,hx.cf,hx.data,hx.agO,hg.2,hl,hx.fet,hx.sto,hx.prog,hx.mem,hx.std⟩
def xZ{d:Co}{n:Nat}{e:Ent}(hd:d.okM n)(hb:n+2<=890000)(he:e.ok)(hst:(cA e).store=true->d.agF.length<=999):(Bm d e).okM (n+2):=
 Kf ((sF hd omT (fE he) hst).mono omT hb) (hd.mono omT hb) he rfl
def GJ{d}{n}{e}(hd:d.okM n)(hb:n+2<=890000)(he:e.ok)(hst:(cA e).store=true->d.agF.length<=999):(MP d e).okM (n+2):=by
 have h:=EX (sF hd omT (fE he) hst) omT (fE he).agZ;rw[<-uY]at h;exact Kf h (hd.mono omT hb) he rfl
def xY{α}{A l B}{x:α}(h:l[0]?=some x):A++l++B=(A++[x])++l.drop 1++B:=by
 cases l with
 |nil=>cases h
 |cons y l=>injection h with h;subst h;simp
def Ij{α}[Inhabited α](l:List α):∃e:α,0<l.length->l[0]?=some e:=by
 cases l with
 |nil=>exact⟨default,λh=>absurd h (iI 0)⟩
 |cons y l=>exact⟨y,λ_=>rfl⟩
def GG{p}{s lo lo' n n'}{c}(e:lo=lo')(e':n=n'):Res.need p (.osl s lo n (c&&true))=.need p (.osl s lo' n' c):=by rw[e,e',Bool.and_true]
instance:Inhabited Ent:=⟨Cs⟩
def tJ{e}(h:(iJ (cA e)).isSome=true): ¬kindOf e.i.op=3:=by
 intro q;have z:=(Dt h).1;unfold cA at z;rw[q]at z;split at z<;>simp at z
def mM(d:Co)(e:Ent):Co:=vG (fZ d (cA e)) e (cA e)
def Ch{d}{e}(h:kindOf e.i.op=3):mM d e=oK (fZ d (cA e)) (cA e).agZ:=by unfold mM vG;rw[af1 h]
def Ci{d}{e}(h: ¬kindOf e.i.op=3):mM d e=fZ d (cA e):=by unfold mM vG;rw[dZ h]
def Bl(d:Co)(e:Ent):Co:={fZ d (cA e)with data:=(mM d e).data,agS:=(mM d e).agS,asked:=(mM d e).asked,r:=lY d.r (cA e),agK:=fM d.agK (cA e).pc (cA e).next e.i,agI:=d.agI.drop 1}
def Kb(d)(e):Bl d e=if kindOf e.i.op=3 then MP d e else Bm d e:=by
 unfold Bl;by_cases h:kindOf e.i.op=3
 ·rw[af1 h,Ch h];rfl
 rw[dZ h,Ci h];rfl
def ES{d}{e}:vZ d e (cA e) (d.agI.drop 1)=Bl d e:=by
 rw[Kb];by_cases h:kindOf e.i.op=3
 ·rw[af1 h,Ke h]
 rw[dZ h,An h]
def CT{d}{n}{e}(hd:d.okM n)(hb:n+2<=890000)(he:e.ok)(hst:(cA e).store=true->d.agF.length<=999):(Bl d e).okM (n+2):=by
 rw[Kb];split
 ·exact GJ hd hb he hst
 exact xZ hd hb he hst
def Qt(c)(n)(hm:c.okM n)(agY)(hline:agY<=4294967295)(lR nR)(kR)(rR)(kF)(xF)(kS)(xS)(lT nT)(kT)(rT):pM C0.P C0.G 60 [.ptr 0 0,vU agY] (heapF [(0,.box (mcX c (.osl 1 lR nR kR) (.sl 2 xF kF) (.sl 2 xS kS) (.osl 2 lT nT kT))),(1,.arr rR 17),(2,.arr rT 9)]) 3 (λx h'=>x=.tup []∧h'=heapF [(0,.box (mcX (ET c agY) (.osl 1 lR nR kR) (.sl 2 xF kF) (.sl 2 xS kS) (.osl 2 lT nT kT))),(1,.arr rR 17),(2,.arr rT 9)]):=by rw[uY];exact Zu c n hm agY hline lR nR kR rR kF xF kS xS lT nT kT rT
def TV(c)(n)(hm:c.okM n)(agY)(hline:agY<=4294967295)(lR nR)(kR)(rR)(kF)(xF)(lS nS)(kS)(rS)(lT nT)(kT)(rT):pM C0.P C0.G 60 [.ptr 0 0,vU agY] (heapF [(0,.box (mcX c (.osl 1 lR nR kR) (.sl 2 xF kF) (.osl 2 lS nS kS) (.osl 3 lT nT kT))),(1,.arr rR 17),(2,.arr rS 2),(3,.arr rT 9)]) 4 (λx h'=>x=.tup []∧h'=heapF [(0,.box (mcX (ET c agY) (.osl 1 lR nR kR) (.sl 2 xF kF) (.osl 2 lS nS kS) (.osl 3 lT nT kT))),(1,.arr rR 17),(2,.arr rS 2),(3,.arr rT 9)]):=by rw[uY];exact Xc c n hm agY hline lR nR kR rR kF xF lS nS kS rS lT nT kT rT
def TW(c)(nb)(hm:c.okM nb)(hb:nb+6<=890000)(A B)(lo n)(kR)(hlo:A.length=lo)(hn:c.agI.length=n)(hA:A.length+n+B.length<=1000):pM C0.P C0.G 20 [.ptr 0 0] (heapF [(0,.box (mcX c (.osl 1 lo n kR) (.sl 2 (c.agH.map ftL) true) (.sl 2 (c.agF.map ptL) true) (.sl 9 (c.agG.map spL) true))),(1,.arr ((A++c.agI++B).map enL) 17)]) 2 (λx h'=>x=.tup []∧VF 2 (af7 c) (.sl 2 ((af7 c).agH.map ftL) true) (.sl 2 ((af7 c).agF.map ptL) false) (.sl 9 ((af7 c).agG.map spL) false) h'):=by
 refine hZ 2 func20 rfl ?_;obtain⟨W,hW,hW2⟩:∃W:Nat,c.agL.agN=(W:Int)∧W<=2:=⟨c.agL.agN.toNat,oH (pD hm.cf),oH (pD hm.cf)⟩;refine sX (λz_=>match z_ with|(k,d,A,lo,n,none)=>⟨slotsF [(0,.ptr 0 0),(11,vI c.agL.agN),(12,vN k)],heapF [(0,.box (mcX d (.osl 1 lo n kR) (.sl 2 (d.agH.map ftL) true) (.sl 2 (d.agF.map ptL) true) (.sl 9 (d.agG.map spL) true))),(1,.arr ((A++d.agI++B).map enL) 17)],11⟩|(k,d,A,lo,n,some false)=>⟨slotsF [(0,.ptr 0 0),(11,vI c.agL.agN),(12,vN k)],heapF [(0,.box (mcX d (.osl 1 lo n kR) (.sl 2 (d.agH.map ftL) true) (.sl 2 (d.agF.map ptL) true) (.osl 9 0 d.agG.length false))),(1,.arr ((A++d.agI++B).map enL) 17),(9,.arr (d.agG.map spL) 9)],11⟩|(k,d,A,lo,n,some true)=>⟨slotsF [(0,.ptr 0 0),(11,vI c.agL.agN),(12,vN k)],heapF [(0,.box (mcX d (.osl 1 lo n kR) (.sl 2 (d.agH.map ftL) true) (.osl 10 0 d.agF.length false) (.osl 9 0 d.agG.length false))),(1,.arr ((A++d.agI++B).map enL) 17),(9,.arr (d.agG.map spL) 9),(10,.arr (d.agF.map ptL) 2)],11⟩) (λz_=>match z_ with|(k,d,A,lo,n,_)=>k<=W∧d.okM (nb+2*k)∧A.length=lo∧d.agI.length=n∧A.length+n+B.length<=1000∧eC (W-k) d=eC W c) (λz_=>W-z_.1) (0,c,A,lo,n,none) (λs=>s) (wOL (λs=>s) wT wH rfl) rfl (⟨aE _,hm,hlo,hn,hA,rfl⟩) ?_;intro z_ hk;obtain⟨k,d,A,lo,n,o_⟩:=z_;rcases o_ with _|_|_
 rotate_left 2
 ·have hkn:k<=W:=hk.1;have hkB:k<=2:=oT;have hd:d.okM (nb+2*k):=hk.2.1;have hlo:A.length=lo:=hk.2.2.1;have hn:d.agI.length=n:=hk.2.2.2.1;have hA:A.length+n+B.length<=1000:=hk.2.2.2.2.1;have hG:eC (W-k) d=eC W c:=hk.2.2.2.2.2;obtain⟨e,he0⟩:=Ij d.agI;have hrt:=hd.ret;have hsl:=hd.sto;refine qS 0 rfl<|zVB (decide ((k:Int)<c.agL.agN)) (λh15=>?_) (λh15=>?_)
  ·have h15p:=af0 h15;refine zV (vB (d.halt != 0))<|gS rfl id<|gS rfl id<|gS rfl id<|gS rfl id<|gBS rfl id rfl<|gBS rfl id (okB (eqN _ _))<|zN rfl (by simp)<|gS rfl id<|gS rfl id<|gS rfl id<|gS rfl id<|pB rfl rfl rfl rfl (λh=>h) rfl rfl (λhg=>by refine⟨dT,FF.2 ?_⟩;have z:=hg;show 0<n;simp[c2o]at z;omega)<|gS rfl id<|DK (enL e) (x:=vI e.is) (g:= !(cE (d.halt != 0) true (n==0))) rfl rfl rfl rfl (λh=>h) rfl rfl (λhg=>⟨aG _,iH (jK hlo (he0 (by have z:=hg;simp[c2o]at z;omega)))⟩) rfl<|gBS rfl id rfl<|zN rfl (by simp)<|zB rfl (λh16=>?_) (λh16=>?_)
   ·have hc:((d.halt≠0∨n=0)∨e.is≠3):=by have z:=h16;simpa [c2o]using z
    refine qXF 0 rfl ?_;have e0:af7 c=eC (W-k) d:=by rw[hG];show eC c.agL.agN.toNat c=_;rw[hW];rfl
    have ee:af7 c=d:=e0.trans (hc.elim (λq=>mG (by rw[hn];exact q)) (λq=>(Classical.em (d.halt≠0∨d.agI.length=0)).elim mG λhz=>(iX omT (λq=>hz (.inl q)) (he0 (eU λz=>hz (.inr z)))).trans (af1 q)));rw[ee];subst hlo;subst hn;exact Jg (.step (some (9,9,d.agG.map spL)) (gOL (l:=[(0,.tup [])]) (hp:=[(0,.box (mcX (d) (.osl 1 A.length d.agI.length kR) (.sl 2 (d.agH.map ftL) true) (.osl 10 0 d.agF.length false) (.sl 9 (d.agG.map spL) false))),(1,.arr ((A++d.agI++B).map enL) 17),(10,.arr (d.agF.map ptL) 2)]) rfl ⟨.refl _,trivial⟩ ⟨⟨rfl,_,rfl,LeB.boxL (qQ (.refl _) (.refl _) (.refl _) (nB (by exact omT)))⟩,⟨rfl,_,rfl,.refl _⟩,⟨rfl,_,rfl,.refl _⟩,trivial⟩) (.refl _)) (some (10,2,d.agF.map ptL)) ⟨rfl,.inr ⟨1,A,B,kR,.inl ⟨rfl,dT⟩,oT,rfl⟩⟩ (ghX rfl (qQ (.refl _) (.refl _) (nB (by exact omT)) (.refl _)) (ghA rfl trivial))
   have hc: ¬((d.halt≠0∨n=0)∨e.is≠3):=by have z:=h16;simpa [c2o]using z
   have hh: ¬d.halt≠0:=λq=>hc (.inl (.inl q));have hnz: ¬n=0:=λq=>hc (.inl (.inr q));have hpos:0<d.agI.length:=oT;have he:=he0 hpos;have heo:=hd.ok.agX e (aB he);refine nW (.ptr2 1 (lo+0) 0) rfl rfl (⟨dT,FF.2 (by show 0<n;exact omT)⟩)<|zX (enL e) (.agg (enL e)) rfl (iH (jK hlo he))<|zC (RT e heo)<|zVB (((cA e).halt) != 0) (λh17=>?_) (λh17=>?_)
   ·have h17p:=wM h17;refine cRg<|oR 7 rfl<|rV (.sl 9 ([spL (cA e)]) true) rfl<|rFx (x:=.osl 62 0 (d.agG.length+1) false) (h':=upd (upd _ 9 none) 62 (some (.arr ((d.agG++([(cA e)])).map spL) 9))) rfl rfl (iP spL d.agG ([(cA e)]) omT omT) (⟨by exact omT,by exact omT,trivial⟩)<|oR 3 rfl<|rSx 0 (mcX d (.osl 1 lo n kR) (.sl 2 (d.agH.map ftL) true) (.osl 10 0 d.agF.length false) (.osl 62 0 (d.agG.length+1) false)) rfl rfl rfl<|rE 67<|qXN 0 rfl<|rSx 0 (mcX ({d with halt:=(cA e).halt}:Co) (.osl 1 lo n kR) (.sl 2 (d.agH.map ftL) true) (.osl 10 0 d.agF.length false) (.osl 62 0 (d.agG.length+1) false)) rfl rfl rfl<|qRN 0 rfl<|rSx 0 (mcX ({d with halt:=(cA e).halt}:Co) (.sl 0 ([]) true) (.sl 2 (d.agH.map ftL) true) (.osl 10 0 d.agF.length false) (.osl 62 0 (d.agG.length+1) false)) rfl rfl rfl<|qRN 0 rfl<|rSx 0 (mcX ({d with halt:=(cA e).halt}:Co) (.sl 0 ([]) true) (.sl 0 ([]) true) (.osl 10 0 d.agF.length false) (.osl 62 0 (d.agG.length+1) false)) rfl rfl rfl<|qRN 0 rfl<|rSx 0 (mcX ({d with stop:=true,halt:=(cA e).halt}:Co) (.sl 0 ([]) true) (.sl 0 ([]) true) (.osl 10 0 d.agF.length false) (.osl 62 0 (d.agG.length+1) false)) rfl rfl rfl<|qRF 0 rfl<|qXF 0 rfl ?_;have e0:af7 c=eC (W-k) d:=by rw[hG];show eC c.agL.agN.toNat c=_;rw[hW];rfl
    have ee:af7 c=tM d (cA e):=by rw[e0,iX omT hh he,dZ (λq=>hc (.inr q)),af1 h17p]
    rw[ee];exact Jg (.step (some (62,9,(d.agG++([(cA e)])).map spL)) (gOL (l:=[(0,.tup [])]) (hp:=[(0,.box (mcX (tM d (cA e)) (.sl 0 ([]) true) (.sl 0 ([]) true) (.osl 10 0 d.agF.length false) (.sl 9 ((d.agG++([(cA e)])).map spL) false))),(1,.arr ((A++d.agI++B).map enL) 17),(10,.arr (d.agF.map ptL) 2)]) rfl ⟨.refl _,trivial⟩ ⟨⟨rfl,_,rfl,LeB.boxL (qQ (.refl _) (.refl _) (.refl _) (nB (by exact omT)))⟩,⟨rfl,_,rfl,.refl _⟩,⟨rfl,_,rfl,.refl _⟩,trivial⟩) (.refl _)) (some (10,2,d.agF.map ptL)) ⟨rfl,.inl ⟨rfl,rfl⟩⟩ (ghX rfl (qQ (.nil 17 false) (.nil 2 true) (nB (by exact omT)) (.refl _)) trivial)
   have h17p:=wN h17;refine zR<|zG rfl id<|zG rfl id<|zG rfl id<|zG rfl id<|zAS (x:=vN d.agF.length) rfl id rfl<|zG rfl id<|zG rfl id<|zG rfl id<|zG rfl id<|zG rfl id<|zAS (x:=vB (decide (((d.agF.length:Nat):Int)>=d.agL.agF))) rfl hsT rfl<|zN rfl (λh=>h)<|zB rfl (λh18=>?_) (λh18=>?_)
   ·have hsf:((cA e).store=true∧(d.agF.length:Int)>=d.agL.agF):=by have z:=h18;simpa [c2a]using z
    refine qXF 0 rfl ?_;have e0:af7 c=eC (W-k) d:=by rw[hG];show eC c.agL.agN.toNat c=_;rw[hW];rfl
    have ee:af7 c=d:=by rw[e0,iX omT hh he,dZ (λq=>hc (.inr q)),dZ (λq=>q h17p),af1 hsf]
    rw[ee];subst hlo;subst hn;exact Jg (.step (some (9,9,d.agG.map spL)) (gOL (l:=[(0,.tup [])]) (hp:=[(0,.box (mcX (d) (.osl 1 A.length d.agI.length kR) (.sl 2 (d.agH.map ftL) true) (.osl 10 0 d.agF.length false) (.sl 9 (d.agG.map spL) false))),(1,.arr ((A++d.agI++B).map enL) 17),(10,.arr (d.agF.map ptL) 2)]) rfl ⟨.refl _,trivial⟩ ⟨⟨rfl,_,rfl,LeB.boxL (qQ (.refl _) (.refl _) (.refl _) (nB (by exact omT)))⟩,⟨rfl,_,rfl,.refl _⟩,⟨rfl,_,rfl,.refl _⟩,trivial⟩) (.refl _)) (some (10,2,d.agF.map ptL)) ⟨rfl,.inr ⟨1,A,B,kR,.inl ⟨rfl,dT⟩,oT,rfl⟩⟩ (ghX rfl (qQ (.refl _) (.refl _) (nB (by exact omT)) (.refl _)) (ghA rfl trivial))
   have hsf: ¬((cA e).store=true∧(d.agF.length:Int)>=d.agL.agF):=by have z:=h18;simpa [c2a]using z
   have hsl9:(cA e).store=true->d.agF.length<=999:=λq=>by have:=pD hd.cf;have: ¬(d.agF.length:Int)>=d.agL.agF:=λz=>hsf ⟨q,z⟩;omega
   refine cRg<|oR 7 rfl<|rV (.sl 9 ([spL (cA e)]) true) rfl<|rFx rfl rfl (iP spL d.agG ([(cA e)]) omT omT) (⟨by exact omT,by exact omT,trivial⟩)<|oR 3 rfl<|rSx 0 (mcX d (.osl 1 lo n kR) (.sl 2 (d.agH.map ftL) true) (.osl 10 0 d.agF.length false) (.osl 79 0 (d.agG.length+1) false)) rfl rfl rfl<|rE 84<|qX 0 rfl<|zC (LO (cA e) (fE heo))<|aV rfl (λh19=>?_) (λh19=>?_)
   ·refine cRg<|oR 7 rfl<|rV (.sl 2 ([[vU (((iJ (cA e)).getD ⟨0,oZ⟩).agZ),.v (.string (((iJ (cA e)).getD ⟨0,oZ⟩).data))]]) true) rfl<|rFx rfl rfl (iP ptL d.agF ([((iJ (cA e)).getD ⟨0,oZ⟩)]) omT omT) (⟨by exact omT,by exact omT,trivial⟩)<|oR 3 rfl<|rSx 0 (mcX d (.osl 1 lo n kR) (.sl 2 (d.agH.map ftL) true) (.osl 101 0 (d.agF.length+1) false) (.osl 79 0 (d.agG.length+1) false)) rfl rfl rfl<|rE 106<|qX 0 rfl<|rCi rfl (pS e.i)<|zWB (okB (eqN _ _)) (λh20=>by exact absurd (eq_of_beq h20) (tJ h19)) (λ_=>?_);refine cRg<|oR 7 rfl<|rCi rfl (GQ d.r (cA e) hd.ok.r (fE heo))<|oR 3 rfl<|rSx 0 (mcX ({d with r:=lY d.r (cA e)}:Co) (.osl 1 lo n kR) (.sl 2 (d.agH.map ftL) true) (.osl 101 0 (d.agF.length+1) false) (.osl 79 0 (d.agG.length+1) false)) rfl rfl rfl<|rE 122<|qXC 0 rfl<|cRg<|oR 12 rfl<|rCi rfl (AZ d.agK (cA e).pc (cA e).next e.i hd.ok.agK (fE heo).pc (fE heo).next heo.agR)<|oR 3 rfl<|rSx 0 (mcX ({d with r:=lY d.r (cA e),agK:=(fM d.agK (cA e).pc (cA e).next e.i)}:Co) (.osl 1 lo n kR) (.sl 2 (d.agH.map ftL) true) (.osl 101 0 (d.agF.length+1) false) (.osl 79 0 (d.agG.length+1) false)) rfl rfl rfl<|rE 139<|qX 0 rfl<|nW _ rfl (GG rfl (by simp only[Option.getD];omega)) slT<|qRN 0 rfl<|rSx 0 (mcX ({d with r:=lY d.r (cA e),agK:=(fM d.agK (cA e).pc (cA e).next e.i)}:Co) (.osl 1 (lo+1) (n-1) kR) (.sl 2 (d.agH.map ftL) true) (.osl 101 0 (d.agF.length+1) false) (.osl 79 0 (d.agG.length+1) false)) rfl rfl rfl ?_;have b5:k+1<=3:=aD hkB (aC 1);refine qR 0 rfl<|zW _ (okI (bH b5 rfl))<|.mk _ (.refl _) ⟨(k+1,(Bm d e),A++[e],lo+1,n-1,some true),λi=>match i with|9=>79|10=>101|i=>i,wOL _ wT ⟨⟨rfl,(GI (af2 (λz=>AV.osl 101 0 z false) (show d.agF.length+1=(fZ d (cA e)).agF.length from by rw[(mN h19)];simp)) (af2 (λz=>AV.osl 79 0 z false) (show d.agG.length+1=(d.agG++[cA e]).length from by simp))),rfl⟩,⟨rfl,(af2 (λz:List Ent=>some (Blk.arr (z.map enL) 17)) (xY he)),rfl⟩,⟨rfl,rfl,rfl⟩,⟨rfl,(af2 (λz:List Pt=>some (Blk.arr (z.map ptL) 2)) (mN h19).symm),rfl⟩,trivial⟩ rfl,rfl,⟨oT,(by have q:=xZ hd omT heo hsl9;rwa [(oT:nb+2*k+2=nb+2*(k+1))]at q),by simp;omega,(by show(d.agI.drop 1).length=n-1;rw[bD];omega),by simp;omega,Eq.trans (by rw[iX (n:=W-k) omT hh he,dZ (λq=>hc (.inr q)),dZ (λq=>q h17p),dZ hsf,An (tJ h19)];congr 1) hG⟩,by show W-(k+1)<W-k;omega⟩
   skip;refine qCJ 0 0 rfl<|Fq (κ:=Unit) (λu_=>⟨slotsF [(0,.ptr 0 0),(11,vI c.agL.agN),(12,vN k),(2,.ptr 45 0),(3,.ptr 49 0)],heapF [(0,.box (mcX ({d with data:=(mM d e).data,agS:=(mM d e).agS,asked:=(mM d e).asked}:Co) (.osl 1 lo n kR) (.sl 2 (d.agH.map ftL) true) (.osl 10 0 d.agF.length false) (.osl 79 0 (d.agG.length+1) false))),(1,.arr ((A++d.agI++B).map enL) 17),(10,.arr (d.agF.map ptL) 2),(45,.box (enL e)),(49,.box (spL (cA e))),(79,.arr ((d.agG++([(cA e)])).map spL) 9)],93⟩) (λu_=>True) ?_ ?_
   ·refine qS 0 rfl<|rCi rfl (pS e.i)<|zWB (okB (eqN _ _)) (λh21=>?_) (λh21=>?_)
    ·have h21p:=mT h21;refine zH rfl ((TV (fZ d (cA e)) (nb+2*k+1) (sF hd omT (fE heo) hsl9) (cA e).agZ (fE heo).agZ lo n kR ((A++d.agI++B).map enL) true (d.agH.map ftL) 0 (d.agF.length) false (d.agF.map ptL) 0 (d.agG.length+1) false ((d.agG++([(cA e)])).map spL)).fB (λz=>match z with|2=>10|3=>79|z=>z)) ?_;rintro _ _ ⟨rfl,rfl⟩;refine .mk _ (.refl _) ⟨(),λs=>s,wOL _ wT ⟨⟨rfl,(by rw[Ch h21p];rfl),rfl⟩,⟨rfl,rfl,rfl⟩,⟨rfl,rfl,rfl⟩,⟨rfl,rfl,rfl⟩,⟨rfl,rfl,rfl⟩,⟨rfl,rfl,rfl⟩,trivial⟩ rfl,rfl,trivial⟩
    have h21p:=nA h21;refine .mk _ (.refl _) ⟨(),λs=>s,wOL _ wT ⟨⟨rfl,(by rw[Ci h21p];rfl),rfl⟩,⟨rfl,rfl,rfl⟩,⟨rfl,rfl,rfl⟩,⟨rfl,rfl,rfl⟩,⟨rfl,rfl,rfl⟩,⟨rfl,rfl,rfl⟩,trivial⟩ rfl,rfl,trivial⟩
   intro u_ _;refine qCC 0 rfl<|cRg<|oR 7 rfl<|rCi rfl (GQ d.r (cA e) hd.ok.r (fE heo))<|oR 3 rfl<|rSx 0 (mcX ({d with r:=lY d.r (cA e),data:=(mM d e).data,agS:=(mM d e).agS,asked:=(mM d e).asked}:Co) (.osl 1 lo n kR) (.sl 2 (d.agH.map ftL) true) (.osl 10 0 d.agF.length false) (.osl 79 0 (d.agG.length+1) false)) rfl rfl rfl<|rE 105<|qXC 0 rfl<|cRg<|oR 12 rfl<|rCi rfl (AZ d.agK (cA e).pc (cA e).next e.i hd.ok.agK (fE heo).pc (fE heo).next heo.agR)<|oR 3 rfl<|rSx 0 (mcX ({d with r:=lY d.r (cA e),data:=(mM d e).data,agS:=(mM d e).agS,asked:=(mM d e).asked,agK:=(fM d.agK (cA e).pc (cA e).next e.i)}:Co) (.osl 1 lo n kR) (.sl 2 (d.agH.map ftL) true) (.osl 10 0 d.agF.length false) (.osl 79 0 (d.agG.length+1) false)) rfl rfl rfl<|rE 122<|qX 0 rfl<|nW _ rfl (GG rfl (by simp only[Option.getD];omega)) slT<|qRN 0 rfl<|rSx 0 (mcX ({d with r:=lY d.r (cA e),data:=(mM d e).data,agS:=(mM d e).agS,asked:=(mM d e).asked,agK:=(fM d.agK (cA e).pc (cA e).next e.i)}:Co) (.osl 1 (lo+1) (n-1) kR) (.sl 2 (d.agH.map ftL) true) (.osl 10 0 d.agF.length false) (.osl 79 0 (d.agG.length+1) false)) rfl rfl rfl ?_;have b6:k+1<=3:=aD hkB (aC 1);refine qR 0 rfl<|zW _ (okI (bH b6 rfl))<|.mk _ (.refl _) ⟨(k+1,(Bl d e),A++[e],lo+1,n-1,some true),λi=>match i with|9=>79|10=>10|i=>i,wOL _ wT ⟨⟨rfl,(GI (af2 (λz=>AV.osl 10 0 z false) (show d.agF.length=(fZ d (cA e)).agF.length from by rw[(qO h19)])) (af2 (λz=>AV.osl 79 0 z false) (show d.agG.length+1=(d.agG++[cA e]).length from by simp))),rfl⟩,⟨rfl,(af2 (λz:List Ent=>some (Blk.arr (z.map enL) 17)) (xY he)),rfl⟩,⟨rfl,rfl,rfl⟩,⟨rfl,(af2 (λz:List Pt=>some (Blk.arr (z.map ptL) 2)) (qO h19).symm),rfl⟩,trivial⟩ rfl,rfl,⟨oT,(by have q:=CT hd omT heo hsl9;rwa [(oT:nb+2*k+2=nb+2*(k+1))]at q),by simp;omega,(by show(d.agI.drop 1).length=n-1;rw[bD];omega),by simp;omega,Eq.trans (by rw[iX omT hh he,dZ (λq=>hc (.inr q)),dZ (λq=>q h17p),dZ hsf,ES];congr 1) hG⟩,by show W-(k+1)<W-k;omega⟩
  have h15p:=aF h15;have e0:af7 c=eC (W-k) d:=by rw[hG];show eC c.agL.agN.toNat c=_;rw[hW];rfl
  have ee:af7 c=d:=by rw[e0,(oT:W-k=0)];rfl
  rw[ee];exact qXF 0 rfl<|SY rfl (.step (some (9,9,d.agG.map spL)) (gOL (l:=[(0,.tup [])]) (hp:=[(0,.box (mcX (d) (.osl 1 lo n kR) (.sl 2 (d.agH.map ftL) true) (.osl 10 0 d.agF.length false) (.sl 9 (d.agG.map spL) false))),(1,.arr ((A++d.agI++B).map enL) 17),(10,.arr (d.agF.map ptL) 2)]) rfl ⟨.refl _,trivial⟩ ⟨⟨rfl,_,rfl,LeB.boxL (qQ (.refl _) (.refl _) (.refl _) (nB (by exact omT)))⟩,⟨rfl,_,rfl,.refl _⟩,⟨rfl,_,rfl,.refl _⟩,trivial⟩) (.step (some (10,2,d.agF.map ptL)) (gOL (l:=[(0,.tup [])]) (hp:=[(0,.box (mcX (d) (.osl 1 lo n kR) (.sl 2 (d.agH.map ftL) true) (.sl 2 (d.agF.map ptL) false) (.sl 9 (d.agG.map spL) false))),(1,.arr ((A++d.agI++B).map enL) 17)]) rfl ⟨.refl _,trivial⟩ ⟨⟨rfl,_,rfl,LeB.boxL (qQ (.refl _) (.refl _) (nB (by exact omT)) (.refl _))⟩,⟨rfl,_,rfl,.refl _⟩,trivial⟩) (.refl _))) (σ:=λz=>z) ⟨rfl,.inr ⟨1,A,B,kR,.inl ⟨rfl,dT⟩,oT,by rw[hlo,hn]⟩⟩ rfl (qT (λz=>z) rfl rfl wH rfl)
 all_goals
  have hkn:k<=W:=hk.1;have hkB:k<=2:=oT;have hd:d.okM (nb+2*k):=hk.2.1;have hlo:A.length=lo:=hk.2.2.1;have hn:d.agI.length=n:=hk.2.2.2.1;have hA:A.length+n+B.length<=1000:=hk.2.2.2.2.1;have hG:eC (W-k) d=eC W c:=hk.2.2.2.2.2;obtain⟨e,he0⟩:=Ij d.agI;have hrt:=hd.ret;have hsl:=hd.sto;refine qS 0 rfl<|zVB (decide ((k:Int)<c.agL.agN)) (λh1=>?_) (λh1=>?_)
  ·have h1p:=af0 h1;refine zV (vB (d.halt != 0))<|gS rfl id<|gS rfl id<|gS rfl id<|gS rfl id<|gBS rfl id rfl<|gBS rfl id (okB (eqN _ _))<|zN rfl (by simp)<|gS rfl id<|gS rfl id<|gS rfl id<|gS rfl id<|pB rfl rfl rfl rfl (λh=>h) rfl rfl (λhg=>by refine⟨dT,FF.2 ?_⟩;have z:=hg;show 0<n;simp[c2o]at z;omega)<|gS rfl id<|DK (enL e) rfl rfl rfl rfl (λh=>h) rfl rfl (λhg=>⟨aG _,iH (jK hlo (he0 (by have z:=hg;simp[c2o]at z;omega)))⟩) rfl<|gBS rfl id rfl<|zN rfl (by simp)<|zB rfl (λh2=>?_) (λh2=>?_)
   ·have hc:((d.halt≠0∨n=0)∨e.is≠3):=by have z:=h2;simpa [c2o]using z
    refine qXF 0 rfl ?_;have e0:af7 c=eC (W-k) d:=by rw[hG];show eC c.agL.agN.toNat c=_;rw[hW];rfl
    have ee:af7 c=d:=e0.trans (hc.elim (λq=>mG (by rw[hn];exact q)) (λq=>(Classical.em (d.halt≠0∨d.agI.length=0)).elim mG λhz=>(iX omT (λq=>hz (.inl q)) (he0 (eU λz=>hz (.inr z)))).trans (af1 q)));rw[ee];subst hlo;subst hn
    first|exact Jg (.refl _) none ⟨rfl,.inr ⟨1,A,B,kR,.inl ⟨rfl,dT⟩,oT,rfl⟩⟩ (ghX rfl (qQ (.refl _) (.refl _) (.clip _ _) (.clip _ _)) (ghA rfl trivial))|exact Jg (.refl _) (some (9,9,d.agG.map spL)) ⟨rfl,.inr ⟨1,A,B,kR,.inl ⟨rfl,dT⟩,oT,rfl⟩⟩ (ghX rfl (qQ (.refl _) (.refl _) (.clip _ _) (nB (by exact omT))) (ghA rfl trivial))
   have hc: ¬((d.halt≠0∨n=0)∨e.is≠3):=by have z:=h2;simpa [c2o]using z
   have hh: ¬d.halt≠0:=λq=>hc (.inl (.inl q));have hnz: ¬n=0:=λq=>hc (.inl (.inr q));have hpos:0<d.agI.length:=oT;have he:=he0 hpos;have heo:=hd.ok.agX e (aB he);refine nW (.ptr2 1 (lo+0) 0) rfl rfl (⟨dT,FF.2 (by show 0<n;exact omT)⟩)<|zX (enL e) (.agg (enL e)) rfl (iH (jK hlo he))<|zC (RT e heo)<|zVB (((cA e).halt) != 0) (λh3=>?_) (λh3=>?_)
   ·have h3p:=wM h3;refine cRg<|oR 7 rfl<|rV (.sl 9 ([spL (cA e)]) true) rfl ?_
    first|refine rFx rfl rfl (Au spL d.agG ([(cA e)]) omT) (⟨by exact omT,by exact omT,trivial,trivial⟩) ?_|refine rFx rfl rfl (iP spL d.agG ([(cA e)]) omT omT) (⟨by exact omT,by exact omT,trivial⟩) ?_
    refine oR 3 rfl<|rSx 0 (mcX d (.osl 1 lo n kR) (.sl 2 (d.agH.map ftL) true) (.sl 2 (d.agF.map ptL) true) (.osl 62 0 (d.agG.length+1) false)) rfl rfl rfl<|rE 67<|qXN 0 rfl<|rSx 0 (mcX ({d with halt:=(cA e).halt}:Co) (.osl 1 lo n kR) (.sl 2 (d.agH.map ftL) true) (.sl 2 (d.agF.map ptL) true) (.osl 62 0 (d.agG.length+1) false)) rfl rfl rfl<|qRN 0 rfl<|rSx 0 (mcX ({d with halt:=(cA e).halt}:Co) (.sl 0 ([]) true) (.sl 2 (d.agH.map ftL) true) (.sl 2 (d.agF.map ptL) true) (.osl 62 0 (d.agG.length+1) false)) rfl rfl rfl<|qRN 0 rfl<|rSx 0 (mcX ({d with halt:=(cA e).halt}:Co) (.sl 0 ([]) true) (.sl 0 ([]) true) (.sl 2 (d.agF.map ptL) true) (.osl 62 0 (d.agG.length+1) false)) rfl rfl rfl<|qRN 0 rfl<|rSx 0 (mcX ({d with stop:=true,halt:=(cA e).halt}:Co) (.sl 0 ([]) true) (.sl 0 ([]) true) (.sl 2 (d.agF.map ptL) true) (.osl 62 0 (d.agG.length+1) false)) rfl rfl rfl<|qRF 0 rfl<|qXF 0 rfl ?_;have e0:af7 c=eC (W-k) d:=by rw[hG];show eC c.agL.agN.toNat c=_;rw[hW];rfl
    have ee:af7 c=tM d (cA e):=by rw[e0,iX omT hh he,dZ (λq=>hc (.inr q)),af1 h3p]
    rw[ee];exact Jg (.refl _) (some (62,9,(d.agG++([(cA e)])).map spL)) ⟨rfl,.inl ⟨rfl,rfl⟩⟩ (ghX rfl (qQ (.nil 17 false) (.nil 2 true) (.clip _ _) (nB (by exact omT))) trivial)
   have h3p:=wN h3;refine zR<|zG rfl id<|zG rfl id<|zG rfl id<|zG rfl id<|zAS rfl id (cD ptL d.agF)<|zG rfl id<|zG rfl id<|zG rfl id<|zG rfl id<|zG rfl id<|zAS rfl hsT rfl<|zN rfl (λh=>h)<|zB rfl (λh4=>?_) (λh4=>?_)
   ·have hsf:((cA e).store=true∧(d.agF.length:Int)>=d.agL.agF):=by have z:=h4;simpa [c2a]using z
    refine qXF 0 rfl ?_;have e0:af7 c=eC (W-k) d:=by rw[hG];show eC c.agL.agN.toNat c=_;rw[hW];rfl
    have ee:af7 c=d:=by rw[e0,iX omT hh he,dZ (λq=>hc (.inr q)),dZ (λq=>q h3p),af1 hsf]
    rw[ee];subst hlo;subst hn
    first|exact Jg (.refl _) none ⟨rfl,.inr ⟨1,A,B,kR,.inl ⟨rfl,dT⟩,oT,rfl⟩⟩ (ghX rfl (qQ (.refl _) (.refl _) (.clip _ _) (.clip _ _)) (ghA rfl trivial))|exact Jg (.refl _) (some (9,9,d.agG.map spL)) ⟨rfl,.inr ⟨1,A,B,kR,.inl ⟨rfl,dT⟩,oT,rfl⟩⟩ (ghX rfl (qQ (.refl _) (.refl _) (.clip _ _) (nB (by exact omT))) (ghA rfl trivial))
   have hsf: ¬((cA e).store=true∧(d.agF.length:Int)>=d.agL.agF):=by have z:=h4;simpa [c2a]using z
   have hsl9:(cA e).store=true->d.agF.length<=999:=λq=>by have:=pD hd.cf;have: ¬(d.agF.length:Int)>=d.agL.agF:=λz=>hsf ⟨q,z⟩;omega
   refine cRg<|oR 7 rfl<|rV (.sl 9 ([spL (cA e)]) true) rfl ?_
   first|refine rFx rfl rfl (Au spL d.agG ([(cA e)]) omT) (⟨by exact omT,by exact omT,trivial,trivial⟩) ?_|refine rFx rfl rfl (iP spL d.agG ([(cA e)]) omT omT) (⟨by exact omT,by exact omT,trivial⟩) ?_
   refine oR 3 rfl<|rSx 0 (mcX d (.osl 1 lo n kR) (.sl 2 (d.agH.map ftL) true) (.sl 2 (d.agF.map ptL) true) (.osl 79 0 (d.agG.length+1) false)) rfl rfl rfl<|rE 84<|qX 0 rfl<|zC (LO (cA e) (fE heo))<|aV rfl (λh5=>?_) (λh5=>?_)
   ·refine cRg<|oR 7 rfl<|rV (.sl 2 ([[vU (((iJ (cA e)).getD ⟨0,oZ⟩).agZ),.v (.string (((iJ (cA e)).getD ⟨0,oZ⟩).data))]]) true) rfl<|rFx rfl rfl (Au ptL d.agF ([((iJ (cA e)).getD ⟨0,oZ⟩)]) omT) (⟨by exact omT,by exact omT,trivial,trivial⟩)<|oR 3 rfl<|rSx 0 (mcX d (.osl 1 lo n kR) (.sl 2 (d.agH.map ftL) true) (.osl 101 0 (d.agF.length+1) false) (.osl 79 0 (d.agG.length+1) false)) rfl rfl rfl<|rE 106<|qX 0 rfl<|rCi rfl (pS e.i)<|zWB (okB (eqN _ _)) (λh6=>by exact absurd (eq_of_beq h6) (tJ h5)) (λ_=>?_);refine cRg<|oR 7 rfl<|rCi rfl (GQ d.r (cA e) hd.ok.r (fE heo))<|oR 3 rfl<|rSx 0 (mcX ({d with r:=lY d.r (cA e)}:Co) (.osl 1 lo n kR) (.sl 2 (d.agH.map ftL) true) (.osl 101 0 (d.agF.length+1) false) (.osl 79 0 (d.agG.length+1) false)) rfl rfl rfl<|rE 122<|qXC 0 rfl<|cRg<|oR 12 rfl<|rCi rfl (AZ d.agK (cA e).pc (cA e).next e.i hd.ok.agK (fE heo).pc (fE heo).next heo.agR)<|oR 3 rfl<|rSx 0 (mcX ({d with r:=lY d.r (cA e),agK:=(fM d.agK (cA e).pc (cA e).next e.i)}:Co) (.osl 1 lo n kR) (.sl 2 (d.agH.map ftL) true) (.osl 101 0 (d.agF.length+1) false) (.osl 79 0 (d.agG.length+1) false)) rfl rfl rfl<|rE 139<|qX 0 rfl<|nW _ rfl (GG rfl (by simp only[Option.getD];omega)) slT<|qRN 0 rfl<|rSx 0 (mcX ({d with r:=lY d.r (cA e),agK:=(fM d.agK (cA e).pc (cA e).next e.i)}:Co) (.osl 1 (lo+1) (n-1) kR) (.sl 2 (d.agH.map ftL) true) (.osl 101 0 (d.agF.length+1) false) (.osl 79 0 (d.agG.length+1) false)) rfl rfl rfl ?_;have b1:k+1<=3:=aD hkB (aC 1);refine qR 0 rfl<|zW _ (okI (bH b1 rfl))<|.mk _ (.refl _) ⟨(k+1,(Bm d e),A++[e],lo+1,n-1,some true),λi=>match i with|9=>79|10=>101|i=>i,wOL _ wT ⟨⟨rfl,(GI (af2 (λz=>AV.osl 101 0 z false) (show d.agF.length+1=(fZ d (cA e)).agF.length from by rw[(mN h5)];simp)) (af2 (λz=>AV.osl 79 0 z false) (show d.agG.length+1=(d.agG++[cA e]).length from by simp))),rfl⟩,⟨rfl,(af2 (λz:List Ent=>some (Blk.arr (z.map enL) 17)) (xY he)),rfl⟩,⟨rfl,rfl,rfl⟩,⟨rfl,(af2 (λz:List Pt=>some (Blk.arr (z.map ptL) 2)) (mN h5).symm),rfl⟩,trivial⟩ rfl,rfl,⟨oT,(by have q:=xZ hd omT heo hsl9;rwa [(oT:nb+2*k+2=nb+2*(k+1))]at q),by simp;omega,(by show(d.agI.drop 1).length=n-1;rw[bD];omega),by simp;omega,Eq.trans (by rw[iX (n:=W-k) omT hh he,dZ (λq=>hc (.inr q)),dZ (λq=>q h3p),dZ hsf,An (tJ h5)];congr 1) hG⟩,by show W-(k+1)<W-k;omega⟩
   skip;refine qCJ 0 0 rfl<|Fq (κ:=Unit) (λu_=>⟨slotsF [(0,.ptr 0 0),(11,vI c.agL.agN),(12,vN k),(2,.ptr 45 0),(3,.ptr 49 0)],heapF [(0,.box (mcX ({d with data:=(mM d e).data,agS:=(mM d e).agS,asked:=(mM d e).asked}:Co) (.osl 1 lo n kR) (.sl 2 (d.agH.map ftL) true) (.sl 2 (d.agF.map ptL) true) (.osl 79 0 (d.agG.length+1) false))),(1,.arr ((A++d.agI++B).map enL) 17),(45,.box (enL e)),(49,.box (spL (cA e))),(79,.arr ((d.agG++([(cA e)])).map spL) 9)],93⟩) (λu_=>True) ?_ ?_
   ·refine qS 0 rfl<|rCi rfl (pS e.i)<|zWB (okB (eqN _ _)) (λh7=>?_) (λh7=>?_)
    ·have h7p:=mT h7;refine zH rfl ((Qt (fZ d (cA e)) (nb+2*k+1) (sF hd omT (fE heo) hsl9) (cA e).agZ (fE heo).agZ lo n kR ((A++d.agI++B).map enL) true (d.agH.map ftL) true (d.agF.map ptL) 0 (d.agG.length+1) false ((d.agG++([(cA e)])).map spL)).fB (λz=>match z with|2=>79|z=>z)) ?_;rintro _ _ ⟨rfl,rfl⟩;refine .mk _ (.refl _) ⟨(),λs=>s,wOL _ wT ⟨⟨rfl,(by rw[Ch h7p];rfl),rfl⟩,⟨rfl,rfl,rfl⟩,⟨rfl,rfl,rfl⟩,⟨rfl,rfl,rfl⟩,⟨rfl,rfl,rfl⟩,trivial⟩ rfl,rfl,trivial⟩
    have h7p:=nA h7;refine .mk _ (.refl _) ⟨(),λs=>s,wOL _ wT ⟨⟨rfl,(by rw[Ci h7p];rfl),rfl⟩,⟨rfl,rfl,rfl⟩,⟨rfl,rfl,rfl⟩,⟨rfl,rfl,rfl⟩,⟨rfl,rfl,rfl⟩,trivial⟩ rfl,rfl,trivial⟩
   intro u_ _;refine qCC 0 rfl<|cRg<|oR 7 rfl<|rCi rfl (GQ d.r (cA e) hd.ok.r (fE heo))<|oR 3 rfl<|rSx 0 (mcX ({d with r:=lY d.r (cA e),data:=(mM d e).data,agS:=(mM d e).agS,asked:=(mM d e).asked}:Co) (.osl 1 lo n kR) (.sl 2 (d.agH.map ftL) true) (.sl 2 (d.agF.map ptL) true) (.osl 79 0 (d.agG.length+1) false)) rfl rfl rfl<|rE 105<|qXC 0 rfl<|cRg<|oR 12 rfl<|rCi rfl (AZ d.agK (cA e).pc (cA e).next e.i hd.ok.agK (fE heo).pc (fE heo).next heo.agR)<|oR 3 rfl<|rSx 0 (mcX ({d with r:=lY d.r (cA e),data:=(mM d e).data,agS:=(mM d e).agS,asked:=(mM d e).asked,agK:=(fM d.agK (cA e).pc (cA e).next e.i)}:Co) (.osl 1 lo n kR) (.sl 2 (d.agH.map ftL) true) (.sl 2 (d.agF.map ptL) true) (.osl 79 0 (d.agG.length+1) false)) rfl rfl rfl<|rE 122<|qX 0 rfl<|nW _ rfl (GG rfl (by simp only[Option.getD];omega)) slT<|qRN 0 rfl<|rSx 0 (mcX ({d with r:=lY d.r (cA e),data:=(mM d e).data,agS:=(mM d e).agS,asked:=(mM d e).asked,agK:=(fM d.agK (cA e).pc (cA e).next e.i)}:Co) (.osl 1 (lo+1) (n-1) kR) (.sl 2 (d.agH.map ftL) true) (.sl 2 (d.agF.map ptL) true) (.osl 79 0 (d.agG.length+1) false)) rfl rfl rfl ?_;have b2:k+1<=3:=aD hkB (aC 1);refine qR 0 rfl<|zW _ (okI (bH b2 rfl))<|.mk _ (.refl _) ⟨(k+1,(Bl d e),A++[e],lo+1,n-1,some false),λi=>match i with|9=>79|i=>i,wOL _ wT ⟨⟨rfl,(GI (af2 (λz:List Pt=>AV.sl 2 (z.map ptL) true) (show d.agF=(fZ d (cA e)).agF from(qO h5).symm)) (af2 (λz=>AV.osl 79 0 z false) (show d.agG.length+1=(d.agG++[cA e]).length from by simp))),rfl⟩,⟨rfl,(af2 (λz:List Ent=>some (Blk.arr (z.map enL) 17)) (xY he)),rfl⟩,⟨rfl,rfl,rfl⟩,trivial⟩ rfl,rfl,⟨oT,(by have q:=CT hd omT heo hsl9;rwa [(oT:nb+2*k+2=nb+2*(k+1))]at q),by simp;omega,(by show(d.agI.drop 1).length=n-1;rw[bD];omega),by simp;omega,Eq.trans (by rw[iX omT hh he,dZ (λq=>hc (.inr q)),dZ (λq=>q h3p),dZ hsf,ES];congr 1) hG⟩,by show W-(k+1)<W-k;omega⟩
  have h1p:=aF h1;have e0:af7 c=eC (W-k) d:=by rw[hG];show eC c.agL.agN.toNat c=_;rw[hW];rfl
  have ee:af7 c=d:=by rw[e0,(oT:W-k=0)];rfl
  rw[ee];refine qXF 0 rfl ?_
  first|exact SY rfl (.step none (gOL (l:=[(0,.tup [])]) (hp:=[(0,.box (mcX (d) (.osl 1 lo n kR) (.sl 2 (d.agH.map ftL) true) (.sl 2 (d.agF.map ptL) false) (.sl 9 (d.agG.map spL) false))),(1,.arr ((A++d.agI++B).map enL) 17)]) trivial ⟨.refl _,trivial⟩ ⟨⟨trivial,_,rfl,LeB.boxL (qQ (.refl _) (.refl _) (.clip _ _) (.clip _ _))⟩,⟨trivial,_,rfl,.refl _⟩,trivial⟩) (.refl _)) (r:=.tup []) (h':=heapF [(0,.box (mcX (d) (.osl 1 lo n kR) (.sl 2 (d.agH.map ftL) true) (.sl 2 (d.agF.map ptL) false) (.sl 9 (d.agG.map spL) false))),(1,.arr ((A++d.agI++B).map enL) 17)]) (σ:=λz=>z) ⟨rfl,.inr ⟨1,A,B,kR,.inl ⟨rfl,dT⟩,oT,by rw[hlo,hn]⟩⟩ rfl (qT (λz=>z) rfl rfl wH rfl)|exact SY (rs:=[]) rfl (.step (some (9,9,d.agG.map spL)) (gOL (l:=[(0,.tup [])]) (hp:=[(0,.box (mcX (d) (.osl 1 lo n kR) (.sl 2 (d.agH.map ftL) true) (.sl 2 (d.agF.map ptL) true) (.sl 9 (d.agG.map spL) false))),(1,.arr ((A++d.agI++B).map enL) 17)]) rfl ⟨.refl _,trivial⟩ ⟨⟨rfl,_,rfl,LeB.boxL (qQ (.refl _) (.refl _) (.refl _) (nB (by exact omT)))⟩,⟨rfl,_,rfl,.refl _⟩,trivial⟩) (.step none (gOL (l:=[(0,.tup [])]) (hp:=[(0,.box (mcX (d) (.osl 1 lo n kR) (.sl 2 (d.agH.map ftL) true) (.sl 2 (d.agF.map ptL) false) (.sl 9 (d.agG.map spL) false))),(1,.arr ((A++d.agI++B).map enL) 17)]) trivial ⟨.refl _,trivial⟩ ⟨⟨trivial,_,rfl,LeB.boxL (qQ (.refl _) (.refl _) (.clip _ _) (.refl _))⟩,⟨trivial,_,rfl,.refl _⟩,trivial⟩) (.refl _))) (σ:=λz=>z) ⟨rfl,.inr ⟨1,A,B,kR,.inl ⟨rfl,dT⟩,oT,by rw[hlo,hn]⟩⟩ rfl (qT (λz=>z) rfl rfl wH rfl)
def Qu(c)(nb)(hm:c.okM nb)(h0:c.agI=[]):pM C0.P C0.G 20 [.ptr 0 0] (heapF [(0,.box (mcX c (.sl 17 [] false) (.sl 2 (c.agH.map ftL) true) (.sl 2 (c.agF.map ptL) true) (.sl 9 (c.agG.map spL) true)))]) 1 (λx h'=>x=.tup []∧VF 1 (af7 c) (.sl 2 ((af7 c).agH.map ftL) true) (.sl 2 ((af7 c).agF.map ptL) false) (.sl 9 ((af7 c).agG.map spL) false) h'):=by
 refine hZ 1 func20 rfl<|zLK (κ:=Nat) (λk=>⟨slotsF [(0,.ptr 0 0),(11,vI c.agL.agN),(12,vN k)],heapF [(0,.box (mcX c (.sl 17 (([]:List Ent).map enL) false) (.sl 2 (c.agH.map ftL) true) (.sl 2 (c.agF.map ptL) true) (.sl 9 (c.agG.map spL) true)))],8⟩) (λk=>k<=2) (λk=>2-k) 0 (λs=>s) (wOL (λs=>s) wT wH rfl) rfl (aE _) ?_;intro k hk;refine zVB (decide ((k:Int)<c.agL.agN)) (λh1=>?_) (λh1=>?_)
 ·refine zV (vB (c.halt != 0))<|gS rfl id<|gS rfl id<|gS rfl id<|gS rfl id<|gBS rfl id (vW enL ([]:List Ent) omT)<|gBS rfl id (okB (eqN _ _))<|zN rfl (by simp)<|gS rfl id<|gS rfl id<|gS rfl id<|gS rfl id<|DK (enL Cs) rfl rfl rfl rfl (λh=>h) rfl rfl (λhg=>(by have z:=hg;simp[c2o]at z)) rfl<|gS rfl id<|gS rfl id<|gBS rfl id rfl<|zN rfl (by simp)<|zB rfl (λ_=>?_) (λh2=>by simp[c2o]at h2);have e:af7 c=c:=mG (.inr (by rw[h0];rfl));rw[e];exact Jg (.refl _) none ⟨rfl,.inl ⟨h0,rfl⟩⟩ (ghX rfl (qQ (.refl _) (.refl _) (.clip _ _) (.clip _ _)) trivial)
 have e:af7 c=c:=mG (.inr (by rw[h0];rfl));rw[e];exact SY rfl (.step none (gOL (l:=[(0,.tup [])]) (hp:=[(0,.box (mcX (c) (.sl 17 (([]:List Ent).map enL) false) (.sl 2 (c.agH.map ftL) true) (.sl 2 (c.agF.map ptL) false) (.sl 9 (c.agG.map spL) false)))]) trivial ⟨.refl _,trivial⟩ ⟨⟨trivial,_,rfl,LeB.boxL (qQ (.refl _) (.refl _) (.clip _ _) (.clip _ _))⟩,trivial⟩) (.refl _)) (σ:=λz=>z) ⟨rfl,.inl ⟨h0,rfl⟩⟩ rfl (qT (λz=>z) rfl rfl wH rfl)
def oY{α:Type}(f:α->α)(l:List α)(k:Nat):List α:=(l.take k).map f++l.drop k
def Zq{α}{f}{l:List α}{k}:(oY f l k).length=l.length:=by unfold oY;simp;omega
def EQ{α}{f}{l:List α}{k}(h:l.length<=k):oY f l k=l.map f:=by
 unfold oY;rw[aN h,cB h,dY]
def TU{α}{f}{l:List α}{k}:(oY f l k)[k]?=l[k]? :=by
 unfold oY;rcases al_Nat_lt_or_ge k l.length with h|h
 ·have hl:((l.take k).map f).length=k:=by rw[aH,aM];omega
  rw[bM omT,hl,eK,cL,iU]
 rw[cB h,dY,bE (by simp;omega),bE h]
def Cg{α}{f}{l}{k}{x:α}(h:(oY f l k)[k]?=some x):(oY f l k).set k (f x)=oY f l (k+1):=by
 rw[TU]at h;obtain⟨hk,rfl⟩:=Em.1 h;have hl:((l.take k).map f).length=k:=by rw[aH,aM];omega
 unfold oY;rw[bF hk,iN _ _ omT,hl,eK,gM,bW,aA hk,dH,eD];rfl
def OC{α}{f}{l}{k}{x:α}(h:(oY f l k)[k]?=some x)(he:f x=x):oY f l k=oY f l (k+1):=by
 rw[<-Cg h,he];obtain⟨hk,rfl⟩:=Em.1 h;exact(List.set_getElem_self hk).symm
def Ii{α}{P:α->Prop}{f}{l}(hf:∀x,P x->P (f x))(h:∀x∈l,P x)(k):∀x∈oY f l k,P x:=by
 intro x hx;rcases al_List_mem_append.1 hx with hx|hx
 ·obtain⟨y,hy,rfl⟩:=pG.1 hx;exact hf y (h y (cQ hy))
 exact h x (eT hx)
def Qr{e}(h:e.ok){b}(hb:b<=4294967295):(uF e b).ok:=by
 have hv:valB b (sizeOf' e.i.op)<=4294967295:=by
  have h4:=lQ e.i.op;unfold valB;have:=Fo (oF b (sizeOf' e.i.op)) (by rw[mP];exact h4);omega
 unfold uF;split
 ·exact h
 exact⟨h.pc,h.agR,h.agK,hv,h.next,h.agZ⟩
def CS{r}{l}{j}{x}(hx:l[j]?=some x)(h: ¬kindOf x.i.op=4):storeAt r l j=l:=by unfold storeAt;rw[hx];exact dZ h
def ah6{r}{l}{j}{x}(hx:l[j]?=some x)(h:(lK l r j x.i.ag1).isSome=false):storeAt r l j=l:=by
 unfold storeAt;rw[hx];dsimp only;split
 ·rw[(sU h:lK l r j x.i.ag1=none)]
 rfl
def Am{r}{l}{j}{x}(hx:l[j]?=some x)(hk:kindOf x.i.op=4)(h:(lK l r j x.i.ag1).isSome=true):storeAt r l j=l.set j (uF x ((lK l r j x.i.ag1).getD 0)):=by
 unfold storeAt;rw[hx];dsimp only;rw[af1 hk];obtain⟨b,hb⟩:=FH.1 h;rw[hb];rfl
def LI(r)(l)(j):(storeAt r l j).length=l.length:=by
 unfold storeAt;repeat' split
 all_goals simp
theorem Ds{r:Nat->Nat}{l:List Ent}:∀{k:Nat},(cN r l k).length=l.length
 |0=>rfl
 |k+1=>(LI ..).trans Ds
theorem afG{r:Nat->Nat}{l:List Ent}(h:∀x∈l,x.ok)(hr:∀k,r k<=4294967295):∀k,∀x∈cN r l k,x.ok
 |0=>h
 | k+1=>by
  have ih:=afG h hr k;show ∀x∈storeAt r (cN r l k) k,x.ok
  cases hx:(cN r l k)[k]? with
  |none=>unfold storeAt;rw[hx];exact ih
  | some x=>
   by_cases hk:kindOf x.i.op=4
   ·cases hq:(lK (cN r l k) r k x.i.ag1).isSome with
    |true=>rw[Am hx hk hq];exact mem_set (P:=Ent.ok) ih (Qr (ih x (aB hx)) (Ck ih hr _ _))
    |false=>rw[ah6 hx hq];exact ih
   ·rw[CS hx hk];exact ih
def tI{l:List Ent}(h:∀x∈l,x.ok):∀x∈l.map goE,x.ok:=by
 intro x hx;obtain⟨y,hy,rfl⟩:=pG.1 hx;exact QH (h y hy)
def nN(c):(afD c).length=c.agI.length:=by unfold afD;rw[Ds,aH]
def vV{c:Co}{n:Nat}(h:c.okM n):∀x∈afD c,x.ok:=afG (tI h.ok.agX) h.ok.r _
def ER{l:List Ent}{i:Nat}(h:yD l=some i):i<l.length:=(List.findIdx?_eq_some_iff_getElem.1 h).1
def MO{l}{i}(h:i<l.length):(DY l i).length=i+1:=by
 unfold DY;rw[aA h];simp;omega
def WS{l}{i}(h:∀x∈l,x.ok):∀x∈DY l i,x.ok:=by
 unfold DY
 cases hx:l[i]? with
 |none=>exact h
 |some e=>
  have he:=h e (aB hx);exact sJ (zD h) (sK ⟨he.pc,he.agR,he.next,he.value,he.next,he.agZ⟩)
def Qs{α}{A l B:List α}{lo n}(hlo:A.length=lo)(hn:l.length=n):((A++l++B).drop lo).take n=l:=by
 subst hlo;subst hn;rw[eD,List.drop_left,List.take_left]
def GE{c}(hh: ¬c.halt≠0)(h:yD (afD c)=none):kK c={c with agI:=afD c}:=by
 unfold kK;rw[dZ hh,h]
def GF{c}{i}{x}(hh: ¬c.halt≠0)(h:yD (afD c)=some i)(hx:(afD c)[i]?=some x):kK c={c with agI:=DY (afD c) i,agM:=x.next,agH:=[],stop:=false}:=by
 unfold kK;rw[dZ hh,h];dsimp only;rw[hx]
def Ka{c}(h:c.agI=[]):kK c=c:=by
 unfold kK afD;rw[h];split
 ·rfl
 show {c with agI:=[]}=c;rw[<-h]
def LJ{c}{n}(h:c.okM n):(kK c).okM n:=by
 have hl:=nN c;have ho:=vV h;by_cases hh:c.halt≠0
 ·rw[show kK c=c from af1 hh];exact h
 ·cases hw:yD (afD c)with
  |none=>
   rw[GE hh hw]
   exact⟨⟨h.ok.agL,h.ok.prog,h.ok.progo,h.ok.r,h.ok.agM,h.ok.fet,h.ok.feto,by rw[hl];exact h.ok.agI,ho,h.ok.sto,h.ok.stoo,h.ok.data,h.ok.agO,h.ok.agS,h.ok.buso,h.ok.asked,h.ok.agT,h.ok.mem,h.ok.agK,h.ok.ret,h.ok.reto⟩,h.nb,h.cf,h.data,h.agO,h.agK,by rw[hl];exact h.agI,h.fet,h.sto,h.prog,h.mem,h.std⟩
  |some i=>
   have hi:=ER hw;have hx:=aA hi;have hc:=MO hi;have hr:=h.agI;rw[GF hh hw hx];exact⟨⟨h.ok.agL,h.ok.prog,h.ok.progo,h.ok.r,(ho _ (jO hi)).next,aE _,(λx hx=>by cases hx),by show(DY _ _).length<=_;rw[hc];omega,WS ho,h.ok.sto,h.ok.stoo,h.ok.data,h.ok.agO,h.ok.agS,h.ok.buso,h.ok.asked,h.ok.agT,h.ok.mem,h.ok.agK,h.ok.ret,h.ok.reto⟩,h.nb,h.cf,h.data,h.agO,h.agK,by show(DY _ _).length<=_;rw[hc];omega,aE _,h.sto,h.prog,h.mem,h.std⟩
def WP(c)(nb)(hm:c.okM nb)(A B)(lo n)(kR)(hlo:A.length=lo)(hn:c.agI.length=n)(hA:A.length+n+B.length<=1000)(hAo:∀x∈A,x.ok)(hBo:∀x∈B,x.ok)(hw:yD (afD c)=none)(kS kT)(xS xT):pM C0.P C0.G 19 [.ptr 0 0] (heapF [(0,.box (mcX c (.osl 1 lo n kR) (.sl 2 (c.agH.map ftL) true) (.sl 2 xS kS) (.sl 9 xT kT))),(1,.arr ((A++c.agI++B).map enL) 17)]) 2 (λx h'=>x=.tup []∧VF 2 (kK c) (.sl 2 ((kK c).agH.map ftL) true) (.sl 2 xS kS) (.sl 9 xT kT) h'):=by
 refine hZ 2 func19 rfl<|zVB (c.halt != 0) (λh1=>?_) (λh1=>?_)
 ·have h1p:=wM h1;have ee:kK c=c:=af1 h1p;rw[ee];exact BH rfl ⟨rfl,.inr ⟨1,A,B,kR,.inl ⟨rfl,dT⟩,(by show A.length+(c.agI).length+B.length<=1000;omega),(by show _=heapF [(0,.box (mcX (c) (.osl 1 A.length (c.agI).length kR) _ _ _)),_];rw[hlo,hn])⟩⟩ rfl (af8 (λz=>z) rfl rfl wH rfl)
 have h1p:=wN h1;refine zV (vN n)<|zLK (λk=>⟨slotsF [(0,.ptr 0 0),(16,vB (c.halt != 0)),(21,.osl 1 lo n kR),(22,vN n),(23,vN k)],heapF [(0,.box (mcX c (.osl 1 lo n kR) (.sl 2 (c.agH.map ftL) true) (.sl 2 xS kS) (.sl 9 xT kT))),(1,.arr ((A++(oY goE c.agI k)++B).map enL) 17)],15⟩) (λk=>k<=n) (λk=>n-k) 0 (λs=>s) (wOL (λs=>s) wT wH rfl) rfl (aE _) ?_;intro k hk;have hkn:k<=n:=hk;have hkB:k<=1000:=oH hm.agI;have hml:(oY goE c.agI k).length=n:=Zq.trans hn;refine zWB (okB (ltN _ _)) (λh2=>?_) (λh2=>?_)
 ·have h2p:=af0 h2;refine nW (.ptr2 1 (lo+k) 0) rfl rfl ixT ?_;obtain⟨x,hx⟩:∃y_,(oY goE c.agI k)[k]?=some y_:=⟨_,aA omT⟩;have hxo:=(Ii (λx h=>QH h) hm.ok.agX k) x (aB hx);refine zX (enL x) (.agg (enL x)) rfl (iH (jK hlo hx))<|cRg<|oR 7 rfl<|rCi rfl (adQ x hxo)<|nW (.ptr2 1 (lo+k) 0) rfl rfl ixT ?_;have hx1:((oY goE c.agI k).set k (goE x))[k]?=some (goE x):=aZ omT;refine nM (enL x) rfl rfl rfl (⟨aG _,iH ((jK hlo hx))⟩) (uL hlo omT)<|rE 32 ?_;have b1:k+1<=1001:=aD hkB (aC 1);refine qX 0 rfl<|zW _ (okI (bH b1 rfl))<|.mk _ (.refl _) ⟨k+1,λs=>s,wOL _ wT ⟨⟨rfl,rfl,rfl⟩,⟨rfl,(af2 (λz:List Ent=>some (Blk.arr ((A++z++B).map enL) 17)) (Cg hx)),rfl⟩,trivial⟩ rfl,rfl,oT,by show n-(k+1)<n-k;omega⟩
 have h2p:=aF h2;refine zV (vN n)<|zLK (λj=>⟨slotsF [(0,.ptr 0 0),(16,vB (c.halt != 0)),(24,vB (decide (k<n))),(42,.osl 1 lo n kR),(43,vN n),(44,vN j)],heapF [(0,.box (mcX c (.osl 1 lo n kR) (.sl 2 (c.agH.map ftL) true) (.sl 2 xS kS) (.sl 9 xT kT))),(1,.arr ((A++(cN c.r (c.agI.map goE) j)++B).map enL) 17)],23⟩) (λj=>j<=n) (λj=>n-j) 0 (λs=>s) (wOL (λs=>s) wT ⟨⟨rfl,rfl,rfl⟩,⟨rfl,(af2 (λz:List Ent=>some (Blk.arr ((A++z++B).map enL) 17)) (EQ omT)),rfl⟩,trivial⟩ rfl) rfl (aE _) ?_;intro j hj;have hjn:j<=n:=hj;have hjB:j<=1000:=oH hm.agI;have hsl:(cN c.r (c.agI.map goE) j).length=n:=Ds.trans ((aH ..).trans hn);refine zWB (okB (ltN _ _)) (λh3=>?_) (λh3=>?_)
 ·have h3p:=af0 h3;refine nW (.ptr2 1 (lo+j) 0) rfl rfl ixT ?_;obtain⟨x,hx⟩:∃y_,(cN c.r (c.agI.map goE) j)[j]?=some y_:=⟨_,aA omT⟩;have hxo:=(afG (tI hm.ok.agX) hm.ok.r j) x (aB hx);refine zX (enL x) (.agg (enL x)) rfl (iH (jK hlo hx))<|rCi rfl (pS x.i)<|zWB (okB (neN _ _)) (λh4=>?_) (λh4=>?_)
  ·have h4p:=wM h4;have b2:j+1<=1001:=aD hjB (aC 1);refine zW _ (okI (bH b2 rfl))<|.mk _ (.refl _) ⟨j+1,λs=>s,wOL _ wT ⟨⟨rfl,rfl,rfl⟩,⟨rfl,(af2 (λz:List Ent=>some (Blk.arr ((A++z++B).map enL) 17)) (show cN c.r (c.agI.map goE) j=cN c.r (c.agI.map goE) (j+1)from(CS hx h4p).symm)),rfl⟩,trivial⟩ rfl,rfl,oT,by show n-(j+1)<n-j;omega⟩
  have h4p:=wN h4;refine zC (Fs x.i)<|zR<|zL rfl (.inr ⟨rfl,⟨(by show lo+n<=((A++(cN c.r (c.agI.map goE) j)++B).map enL).length;exact omT),tvT,trivial,trivial,trivial⟩⟩) ((show bI C0 65 [.sl 17 (List.take n (List.drop lo ((A++(cN c.r (c.agI.map goE) j)++B).map enL))) kR,.agg (Ks c.r),vN j,vI x.i.ag1] _ from by rw[tV hlo (by first|assumption|exact hn)];exact Kl (cN c.r (c.agI.map goE) j) c.r kR j x.i.ag1 (oH hm.agI) (afG (tI hm.ok.agX) hm.ok.r j) hm.ok.r (oH hm.agI)))<|aV rfl (λh5=>?_) (λh5=>?_)
  ·refine cRg<|oR 8 rfl<|rCi rfl (RS x ((lK (cN c.r (c.agI.map goE) j) c.r j x.i.ag1).getD 0) hxo (Ck (afG (tI hm.ok.agX) hm.ok.r j) hm.ok.r j x.i.ag1))<|nW (.ptr2 1 (lo+j) 0) rfl rfl ixT ?_;have hx2:((cN c.r (c.agI.map goE) j).set j (uF x ((lK (cN c.r (c.agI.map goE) j) c.r j x.i.ag1).getD 0)))[j]?=some (uF x ((lK (cN c.r (c.agI.map goE) j) c.r j x.i.ag1).getD 0)):=aZ omT;refine nM (enL x) rfl rfl rfl (⟨aG _,iH ((jK hlo hx))⟩) (uL hlo omT)<|rE 72 ?_;have b3:j+1<=1001:=aD hjB (aC 1);refine qX 0 rfl<|zW _ (okI (bH b3 rfl))<|.mk _ (.refl _) ⟨j+1,λs=>s,wOL _ wT ⟨⟨rfl,rfl,rfl⟩,⟨rfl,(af2 (λz:List Ent=>some (Blk.arr ((A++z++B).map enL) 17)) (show(cN c.r (c.agI.map goE) j).set j (uF x ((lK (cN c.r (c.agI.map goE) j) c.r j x.i.ag1).getD 0))=cN c.r (c.agI.map goE) (j+1)from(Am hx (h4p) h5).symm)),rfl⟩,trivial⟩ rfl,rfl,oT,by show n-(j+1)<n-j;omega⟩
  skip
  have b4:j+1<=1001:=aD hjB (aC 1);refine qC 0 rfl<|zW _ (okI (bH b4 rfl))<|.mk _ (.refl _) ⟨j+1,λs=>s,wOL _ wT ⟨⟨rfl,rfl,rfl⟩,⟨rfl,(af2 (λz:List Ent=>some (Blk.arr ((A++z++B).map enL) 17)) (show cN c.r (c.agI.map goE) j=cN c.r (c.agI.map goE) (j+1)from(ah6 hx h5).symm)),rfl⟩,trivial⟩ rfl,rfl,oT,by show n-(j+1)<n-j;omega⟩
 have h3p:=aF h3;have hWj:cN c.r (c.agI.map goE) j=afD c:=by have q:j=c.agI.length:=omT;rw[q];rfl
 have hWl:(afD c).length=n:=(nN c).trans hn;refine zL rfl (.inr ⟨rfl,⟨(by show lo+n<=((A++(cN c.r (c.agI.map goE) j)++B).map enL).length;exact omT),trivial⟩⟩) ((show bI C0 _ [.sl 17 (List.take n (List.drop lo ((A++(cN c.r (c.agI.map goE) j)++B).map enL))) kR] (vI (-1))from by rw[show vI (-1)=vI (DM (yD (afD c)))from by rw[hw];rfl,tV hlo (by first|assumption|exact hn),hWj];exact QR (afD c) kR (by rw[nN];have:=hm.agI;omega) (vV hm)))<|zV (vB (decide ((-1)>=0)))<|aV rfl (λh6=>by exact absurd h6 dT) (λ_=>?_);have ee:kK c={c with agI:=afD c}:=GE (λq=>q h1p) hw;rw[ee];exact qCF 0 rfl<|BH rfl (h':=heapF [(0,.box (mcX ({c with agI:=afD c}) (.osl 1 lo n kR) (.sl 2 (c.agH.map ftL) true) (.sl 2 xS kS) (.sl 9 xT kT))),(1,.arr ((A++afD c++B).map enL) 17)]) (σ:=λz=>z) ⟨rfl,.inr ⟨1,A,B,kR,.inl ⟨rfl,dT⟩,(by show A.length+(afD c).length+B.length<=1000;omega),(by show _=heapF [(0,.box (mcX ({c with agI:=afD c}) (.osl 1 A.length (afD c).length kR) _ _ _)),_];rw[hlo,hWl])⟩⟩ rfl (af8 (λz=>z) rfl rfl ⟨⟨rfl,rfl,rfl⟩,⟨rfl,(by show some (Blk.arr ((A++cN c.r (c.agI.map goE) j++B).map enL) 17)=_;rw[hWj];rfl),rfl⟩,trivial⟩ rfl)
def WQ(c)(nb)(hm:c.okM nb)(A B)(lo n)(kR)(hlo:A.length=lo)(hn:c.agI.length=n)(hA:A.length+n+B.length<=1000)(hAo:∀x∈A,x.ok)(hBo:∀x∈B,x.ok)(i)(hw:yD (afD c)=some i)(kS kT)(xS xT):pM C0.P C0.G 19 [.ptr 0 0] (heapF [(0,.box (mcX c (.osl 1 lo n kR) (.sl 2 (c.agH.map ftL) true) (.sl 2 xS kS) (.sl 9 xT kT))),(1,.arr ((A++c.agI++B).map enL) 17)]) 2 (λx h'=>x=.tup []∧VF 2 (kK c) (.sl 2 ((kK c).agH.map ftL) true) (.sl 2 xS kS) (.sl 9 xT kT) h'):=by
 refine hZ 2 func19 rfl ?_;have hi1:i<n:=by have q:=ER hw;rw[nN]at q;omega
 refine zVB (c.halt != 0) (λh1=>?_) (λh1=>?_)
 ·have h1p:=wM h1;have ee:kK c=c:=af1 h1p;rw[ee];exact BH (rs:=[]) rfl ⟨rfl,.inr ⟨1,A,B,kR,.inl ⟨rfl,dT⟩,(by show A.length+(c.agI).length+B.length<=1000;omega),(by show _=heapF [(0,.box (mcX (c) (.osl 1 A.length (c.agI).length kR) _ _ _)),_];rw[hlo,hn])⟩⟩ rfl (af8 (λz=>z) rfl rfl wH rfl)
 have h1p:=wN h1;refine zV (vN n)<|zLK (λk=>⟨slotsF [(0,.ptr 0 0),(16,vB (c.halt != 0)),(21,.osl 1 lo n kR),(22,vN n),(23,vN k)],heapF [(0,.box (mcX c (.osl 1 lo n kR) (.sl 2 (c.agH.map ftL) true) (.sl 2 xS kS) (.sl 9 xT kT))),(1,.arr ((A++(oY goE c.agI k)++B).map enL) 17)],15⟩) (λk=>k<=n) (λk=>n-k) 0 (λs=>s) (wOL (λs=>s) wT wH rfl) rfl (aE _) ?_;intro k hk;have hkn:k<=n:=hk;have hkB:k<=1000:=oH hm.agI;have hml:(oY goE c.agI k).length=n:=Zq.trans hn;refine zWB (okB (ltN _ _)) (λh2=>?_) (λh2=>?_)
 ·have h2p:=af0 h2;refine nW (.ptr2 1 (lo+k) 0) rfl rfl ixT ?_;obtain⟨x,hx⟩:∃y_,(oY goE c.agI k)[k]?=some y_:=⟨_,aA omT⟩;have hxo:=(Ii (λx h=>QH h) hm.ok.agX k) x (aB hx);refine zX (enL x) (.agg (enL x)) rfl (iH (jK hlo hx))<|cRg<|oR 7 rfl<|rCi rfl (adQ x hxo)<|nW (.ptr2 1 (lo+k) 0) rfl rfl ixT ?_;have hx1:((oY goE c.agI k).set k (goE x))[k]?=some (goE x):=aZ omT;refine nM (enL x) rfl rfl rfl (⟨aG _,iH ((jK hlo hx))⟩) (uL hlo omT)<|rE 32 ?_;have b1:k+1<=1001:=aD hkB (aC 1);refine qX 0 rfl<|zW _ (okI (bH b1 rfl))<|.mk _ (.refl _) ⟨k+1,λs=>s,wOL _ wT ⟨⟨rfl,rfl,rfl⟩,⟨rfl,(af2 (λz:List Ent=>some (Blk.arr ((A++z++B).map enL) 17)) (Cg hx)),rfl⟩,trivial⟩ rfl,rfl,oT,by show n-(k+1)<n-k;omega⟩
 have h2p:=aF h2;refine zV (vN n)<|zLK (λj=>⟨slotsF [(0,.ptr 0 0),(16,vB (c.halt != 0)),(24,vB (decide (k<n))),(42,.osl 1 lo n kR),(43,vN n),(44,vN j)],heapF [(0,.box (mcX c (.osl 1 lo n kR) (.sl 2 (c.agH.map ftL) true) (.sl 2 xS kS) (.sl 9 xT kT))),(1,.arr ((A++(cN c.r (c.agI.map goE) j)++B).map enL) 17)],23⟩) (λj=>j<=n) (λj=>n-j) 0 (λs=>s) (wOL (λs=>s) wT ⟨⟨rfl,rfl,rfl⟩,⟨rfl,(af2 (λz:List Ent=>some (Blk.arr ((A++z++B).map enL) 17)) (EQ omT)),rfl⟩,trivial⟩ rfl) rfl (aE _) ?_;intro j hj;have hjn:j<=n:=hj;have hjB:j<=1000:=oH hm.agI;have hsl:(cN c.r (c.agI.map goE) j).length=n:=Ds.trans ((aH ..).trans hn);refine zWB (okB (ltN _ _)) (λh3=>?_) (λh3=>?_)
 ·have h3p:=af0 h3;refine nW (.ptr2 1 (lo+j) 0) rfl rfl ixT ?_;obtain⟨x,hx⟩:∃y_,(cN c.r (c.agI.map goE) j)[j]?=some y_:=⟨_,aA omT⟩;have hxo:=(afG (tI hm.ok.agX) hm.ok.r j) x (aB hx);refine zX (enL x) (.agg (enL x)) rfl (iH (jK hlo hx))<|rCi rfl (pS x.i)<|zWB (okB (neN _ _)) (λh4=>?_) (λh4=>?_)
  ·have h4p:=wM h4;have b2:j+1<=1001:=aD hjB (aC 1);refine zW _ (okI (bH b2 rfl))<|.mk _ (.refl _) ⟨j+1,λs=>s,wOL _ wT ⟨⟨rfl,rfl,rfl⟩,⟨rfl,(af2 (λz:List Ent=>some (Blk.arr ((A++z++B).map enL) 17)) (show cN c.r (c.agI.map goE) j=cN c.r (c.agI.map goE) (j+1)from(CS hx h4p).symm)),rfl⟩,trivial⟩ rfl,rfl,oT,by show n-(j+1)<n-j;omega⟩
  have h4p:=wN h4;refine zC (Fs x.i)<|zR<|zL rfl (.inr ⟨rfl,⟨(by show lo+n<=((A++(cN c.r (c.agI.map goE) j)++B).map enL).length;exact omT),tvT,trivial,trivial,trivial⟩⟩) ((show bI C0 65 [.sl 17 (List.take n (List.drop lo ((A++(cN c.r (c.agI.map goE) j)++B).map enL))) kR,.agg (Ks c.r),vN j,vI x.i.ag1] _ from by rw[tV hlo (by first|assumption|exact hn)];exact Kl (cN c.r (c.agI.map goE) j) c.r kR j x.i.ag1 (oH hm.agI) (afG (tI hm.ok.agX) hm.ok.r j) hm.ok.r (oH hm.agI)))<|aV rfl (λh5=>?_) (λh5=>?_)
  ·refine cRg<|oR 8 rfl<|rCi rfl (RS x ((lK (cN c.r (c.agI.map goE) j) c.r j x.i.ag1).getD 0) hxo (Ck (afG (tI hm.ok.agX) hm.ok.r j) hm.ok.r j x.i.ag1))<|nW (.ptr2 1 (lo+j) 0) rfl rfl ixT ?_;have hx2:((cN c.r (c.agI.map goE) j).set j (uF x ((lK (cN c.r (c.agI.map goE) j) c.r j x.i.ag1).getD 0)))[j]?=some (uF x ((lK (cN c.r (c.agI.map goE) j) c.r j x.i.ag1).getD 0)):=aZ omT;refine nM (enL x) rfl rfl rfl (⟨aG _,iH ((jK hlo hx))⟩) (uL hlo omT)<|rE 72 ?_;have b3:j+1<=1001:=aD hjB (aC 1);refine qX 0 rfl<|zW _ (okI (bH b3 rfl))<|.mk _ (.refl _) ⟨j+1,λs=>s,wOL _ wT ⟨⟨rfl,rfl,rfl⟩,⟨rfl,(af2 (λz:List Ent=>some (Blk.arr ((A++z++B).map enL) 17)) (show(cN c.r (c.agI.map goE) j).set j (uF x ((lK (cN c.r (c.agI.map goE) j) c.r j x.i.ag1).getD 0))=cN c.r (c.agI.map goE) (j+1)from(Am hx (h4p) h5).symm)),rfl⟩,trivial⟩ rfl,rfl,oT,by show n-(j+1)<n-j;omega⟩
  skip
  have b4:j+1<=1001:=aD hjB (aC 1);refine qC 0 rfl<|zW _ (okI (bH b4 rfl))<|.mk _ (.refl _) ⟨j+1,λs=>s,wOL _ wT ⟨⟨rfl,rfl,rfl⟩,⟨rfl,(af2 (λz:List Ent=>some (Blk.arr ((A++z++B).map enL) 17)) (show cN c.r (c.agI.map goE) j=cN c.r (c.agI.map goE) (j+1)from(ah6 hx h5).symm)),rfl⟩,trivial⟩ rfl,rfl,oT,by show n-(j+1)<n-j;omega⟩
 have h3p:=aF h3;have hWj:cN c.r (c.agI.map goE) j=afD c:=by have q:j=c.agI.length:=omT;rw[q];rfl
 have hWl:(afD c).length=n:=(nN c).trans hn;have hil:i<n:=oH (ER hw);obtain⟨y,hy⟩:∃y,(afD c)[i]?=some y:=⟨_,aA omT⟩;have hyo:=vV hm y (aB hy);have hOKA:∀x∈A++afD c++B,x.ok:=sJ (sJ hAo (vV hm)) hBo;have hyj:(cN c.r (c.agI.map goE) j)[i]?=some y:=by rw[hWj];exact hy
 refine zL rfl (.inr ⟨rfl,⟨(by show lo+n<=((A++(cN c.r (c.agI.map goE) j)++B).map enL).length;exact omT),trivial⟩⟩) ((show bI C0 _ [.sl 17 (List.take n (List.drop lo ((A++(cN c.r (c.agI.map goE) j)++B).map enL))) kR] (vN i)from by rw[show vN i=vI (DM (yD (afD c)))from by rw[hw];rfl,tV hlo (by first|assumption|exact hn),hWj];exact QR (afD c) kR (by rw[nN];have:=hm.agI;omega) (vV hm)))<|zWB (okB (geN _ _)) (λ_=>?_) (λh6=>by exact absurd h6 (by simp));refine zM (.ptr2 1 (lo+i) 0) rfl ixT<|rIx (enL y) (vU y.next) rfl rfl (iH (jK hlo hyj)) rfl<|qRN 0 rfl<|rSx 0 (mcX ({c with agM:=y.next}:Co) (.osl 1 lo n kR) (.sl 2 (c.agH.map ftL) true) (.sl 2 xS kS) (.sl 9 xT kT)) rfl rfl rfl<|qR 0 rfl<|fU _ rfl rfl rfl ((show pM C0.P C0.G 68 [.osl 0 lo n kR,vN i] (heapF [(0,.arr ((A++afD c++B).map enL) 17)]) 1 (λx h'=>x=.osl 1 0 (i+1) false∧h'=heapF [(0,.arr ((A++afD c++B).map enL) 17),(1,.arr ((DY (afD c) i).map enL) 17)])from by have q:=aeE (A++afD c++B) lo n i kR (by simp only[aU,nN];omega) (by simp only[aU,nN];omega) omT hOKA;rwa [Qs hlo hWl]at q).frameO 1 _ _ rfl (by show some (Blk.arr ((A++cN c.r (c.agI.map goE) j++B).map enL) 17)=_;rw[hWj]) rfl) ?_;rintro _ _ ⟨rfl,rfl⟩;refine qRN 0 rfl<|rSx 0 (mcX ({c with agM:=y.next}:Co) (.osl 54 0 (i+1) false) (.sl 2 (c.agH.map ftL) true) (.sl 2 xS kS) (.sl 9 xT kT)) rfl rfl rfl<|qRN 0 rfl<|rSx 0 (mcX ({c with agM:=y.next}:Co) (.osl 54 0 (i+1) false) (.sl 0 ([]) true) (.sl 2 xS kS) (.sl 9 xT kT)) rfl rfl rfl<|qRN 0 rfl<|rSx 0 (mcX ({c with agM:=y.next,stop:=false}:Co) (.osl 54 0 (i+1) false) (.sl 0 ([]) true) (.sl 2 xS kS) (.sl 9 xT kT)) rfl rfl rfl ?_;have ee:kK c={c with agI:=DY (afD c) i,agM:=y.next,agH:=[],stop:=false}:=GF (λq=>q h1p) hw hy;have hcl:(DY (afD c) i).length=i+1:=MO omT;rw[ee];exact qRF 0 rfl<|SY rfl (.step none (gOL (l:=[(0,.tup [])]) (hp:=[(0,.box (mcX ({c with agI:=DY (afD c) i,agM:=y.next,agH:=[],stop:=false}) (.osl 54 0 (i+1) false) (.sl 2 [] true) (.sl 2 xS kS) (.sl 9 xT kT))),(54,.arr ((DY (afD c) i).map enL) 17)]) trivial ⟨.refl _,trivial⟩ ⟨⟨trivial,_,rfl,LeB.boxL (qQ (.refl _) (.nil 2 true) (.refl _) (.refl _))⟩,⟨trivial,_,rfl,.refl _⟩,trivial⟩) (.refl _)) (h':=heapF [(0,.box (mcX ({c with agI:=DY (afD c) i,agM:=y.next,agH:=[],stop:=false}) (.osl 2 0 (i+1) false) (.sl 2 [] true) (.sl 2 xS kS) (.sl 9 xT kT))),(2,.arr ((DY (afD c) i).map enL) 17)]) (σ:=λz=>match z with|2=>54|z=>z) ⟨rfl,.inr ⟨2,[],[],false,.inr rfl,(by show 0+(DY (afD c) i).length+0<=1000;have:=hm.agI;omega),(by show _=heapF [(0,.box (mcX ({c with agI:=DY (afD c) i,agM:=y.next,agH:=[],stop:=false}) (.osl 2 0 (DY (afD c) i).length false) _ _ _)),(2,.arr (([]++DY (afD c) i++[]).map enL) 17)];rw[hcl,iA,dY];rfl)⟩⟩ rfl (qT (λz=>match z with|2=>54|z=>z) rfl rfl wH rfl)
def WR(c)(nb)(hm:c.okM nb)(h0:c.agI=[])(kS kT)(xS xT):pM C0.P C0.G 19 [.ptr 0 0] (heapF [(0,.box (mcX c (.sl 17 [] false) (.sl 2 (c.agH.map ftL) true) (.sl 2 xS kS) (.sl 9 xT kT)))]) 1 (λx h'=>x=.tup []∧VF 1 (kK c) (.sl 2 ((kK c).agH.map ftL) true) (.sl 2 xS kS) (.sl 9 xT kT) h'):=by
 refine hZ 1 func19 rfl<|zVB (c.halt != 0) (λh1=>?_) (λh1=>?_)
 ·rw[Ka h0];exact BH rfl ⟨rfl,.inl ⟨h0,rfl⟩⟩ rfl (af8 (λz=>z) rfl rfl wH rfl)
 refine zW _ (vW enL ([]:List Ent) omT)<|zLK (λk=>⟨slotsF [(0,.ptr 0 0),(16,vB (c.halt != 0)),(21,.sl 17 (([]:List Ent).map enL) false),(22,vN 0),(23,vN k)],heapF [(0,.box (mcX c (.sl 17 (([]:List Ent).map enL) false) (.sl 2 (c.agH.map ftL) true) (.sl 2 xS kS) (.sl 9 xT kT)))],14⟩) (λk=>k<=0) (λk=>0-k) 0 (λs=>s) (wOL (λs=>s) wT wH rfl) rfl (aE _) ?_;intro k hk;have hkB:k<=1000:=oT;refine zWB (okB (ltN _ _)) (λh2=>by exact absurd (af0 h2) (dG _)) (λ_=>?_);refine zW _ (vW enL ([]:List Ent) omT)<|zLK (λj=>⟨slotsF [(0,.ptr 0 0),(16,vB (c.halt != 0)),(24,vB (decide (k<0))),(42,.sl 17 (([]:List Ent).map enL) false),(43,vN 0),(44,vN j)],heapF [(0,.box (mcX c (.sl 17 (([]:List Ent).map enL) false) (.sl 2 (c.agH.map ftL) true) (.sl 2 xS kS) (.sl 9 xT kT)))],22⟩) (λj=>j<=0) (λj=>0-j) 0 (λs=>s) (wOL (λs=>s) wT wH rfl) rfl (aE _) ?_;intro j hj;have hjB:j<=1000:=oT;refine zWB (okB (ltN _ _)) (λh3=>by exact absurd (af0 h3) (dG _)) (λ_=>?_);refine zC ((show bI C0 _ [.sl 17 [] false] (vI (-1))from QR [] false dT (λx h=>by cases h)))<|zV (vB (decide ((-1)>=0)))<|aV rfl (λh4=>by exact absurd h4 dT) (λ_=>?_);rw[Ka h0];exact qCF 0 rfl<|BH rfl ⟨rfl,.inl ⟨h0,rfl⟩⟩ rfl (af8 (λz=>z) rfl rfl wH rfl)
def jJ(c:Co):Co:={c with agS:=(eH c.agS).1}
def kC(c:Co):lM c=if(eH c.agS).2.2=true then ID (jJ c) (eH c.agS).2.1 else jJ c:=rfl
def wY{q}(h:∀x∈q,x.ok):(eH q).1.length<=q.length∧(∀x∈(eH q).1,x.ok)∧(eH q).2.1.agY<=4294967295:=by
 unfold eH
 cases q with
 |nil=>exact⟨aC _,h,aE _⟩
 |cons y l=>
  have hy:=h y (al_List_mem_cons_self ..);have hl:∀x∈l,x.ok:=λx hx=>h x (bY _ hx);dsimp only;split
  ·exact⟨aC _,(λx hx=>(al_List_mem_cons.1 hx).elim (λe=>e ▸ ⟨hy.agY⟩) (hl x)),aE _⟩
  ·exact⟨fF _,hl,hy.agY⟩
def Aj{c}{n}(h:c.okM n):(jJ c).okM n:=by
 have ht:=wY h.ok.buso;exact⟨⟨h.ok.agL,h.ok.prog,h.ok.progo,h.ok.r,h.ok.agM,h.ok.fet,h.ok.feto,h.ok.agI,h.ok.agX,h.ok.sto,h.ok.stoo,h.ok.data,h.ok.agO,aL ht.1 h.ok.agS,ht.2.1,h.ok.asked,h.ok.agT,h.ok.mem,h.ok.agK,h.ok.ret,h.ok.reto⟩,h.nb,h.cf,h.data,h.agO,h.agK,h.agI,h.fet,h.sto,h.prog,h.mem,h.std⟩
def EP{e:Ent}(h:e.ok):({e with agU:=true}:Ent).ok:=⟨h.pc,h.agR,h.agK,h.value,h.next,h.agZ⟩
def MN{c}{agY}{e}(h:e.ok):(wO c agY e).ok:=by
 unfold wO;split
 ·exact Il (EP h) _
 exact h
def TS{c:Co}{agY:Nat}{e:Ent}(h:e.is=2∧lineOf e.agZ=agY):wO c agY e=uM {e with agU:=true} (oL c e):=af1 h
def WN{c:Co}{agY:Nat}{e:Ent}(h: ¬(e.is=2∧lineOf e.agZ=agY)):wO c agY e=e:=dZ h
def LH{c}{n}(h:c.okM n)(hb:n+1<=890000):(lM c).okM (n+1):=by
 have h1:=(Aj h).mono (fF n) hb;have hl:=(wY h.ok.buso).2.2;rw[kC];split
 ·unfold ID
  repeat' split
  ·have ho:∀x∈(jJ c).agI.map (wO (jJ c) (eH c.agS).2.1.agY),x.ok:=by
    intro x hx;obtain⟨y,hy,rfl⟩:=pG.1 hx;exact MN (h1.ok.agX y hy)
   exact⟨⟨h1.ok.agL,h1.ok.prog,h1.ok.progo,h1.ok.r,h1.ok.agM,h1.ok.fet,h1.ok.feto,by rw[aH];exact h1.ok.agI,ho,h1.ok.sto,h1.ok.stoo,h1.ok.data,h1.ok.agO,h1.ok.agS,h1.ok.buso,h1.ok.asked,h1.ok.agT,h1.ok.mem,h1.ok.agK,h1.ok.ret,h1.ok.reto⟩,h1.nb,h1.cf,h1.data,h1.agO,h1.agK,by rw[aH];exact h1.agI,h1.fet,h1.sto,h1.prog,h1.mem,h1.std⟩
  ·have g:=ab7.1 (h1.gw.put hl oZ false);exact⟨⟨h1.ok.agL,h1.ok.prog,h1.ok.progo,h1.ok.r,h1.ok.agM,h1.ok.fet,h1.ok.feto,h1.ok.agI,h1.ok.agX,h1.ok.sto,h1.ok.stoo,h1.ok.data,g.2,h1.ok.agS,h1.ok.buso,h1.ok.asked,h1.ok.agT,h1.ok.mem,h1.ok.agK,h1.ok.ret,h1.ok.reto⟩,h1.nb,h1.cf,h1.data,g.1,h1.agK,h1.agI,h1.fet,h1.sto,h1.prog,h1.mem,h1.std⟩
  ·exact EX (Aj h) hb hl
  ·exact⟨⟨h1.ok.agL,h1.ok.prog,h1.ok.progo,h1.ok.r,h1.ok.agM,h1.ok.fet,h1.ok.feto,h1.ok.agI,h1.ok.agX,h1.ok.sto,h1.ok.stoo,h1.ok.data,h1.ok.agO,h1.ok.agS,h1.ok.buso,h1.ok.asked,h1.ok.agT,by rw[iY];exact h1.ok.mem,h1.ok.agK,h1.ok.ret,h1.ok.reto⟩,h1.nb,h1.cf,h1.data,h1.agO,h1.agK,h1.agI,h1.fet,h1.sto,h1.prog,by rw[iY];exact h1.mem,h1.std⟩
  exact h1
 exact h1
def ab6(c)(n)(hm:c.okM n)(agY)(hline:agY<=4294967295)(kR)(xR)(kF)(xF)(kS)(xS)(kT)(xT):pM C0.P C0.G 60 [.ptr 0 0,vU agY] (heapF [(0,.box (mcX c (.sl 17 xR kR) (.sl 2 xF kF) (.sl 2 xS kS) (.sl 9 xT kT)))]) 1 (λx h'=>x=.tup []∧h'=heapF [(0,.box (mcX (ET c agY) (.sl 17 xR kR) (.sl 2 xF kF) (.sl 2 xS kS) (.sl 9 xT kT)))]):=by rw[uY];exact aeB c n hm agY hline kR xR kF xF kS xS kT xT
def Zo(c)(n)(hm:c.okM n)(agY)(hline:agY<=4294967295)(lR nR)(kR)(rR)(kF)(xF)(kS)(xS)(kT)(xT):pM C0.P C0.G 60 [.ptr 0 0,vU agY] (heapF [(0,.box (mcX c (.osl 1 lR nR kR) (.sl 2 xF kF) (.sl 2 xS kS) (.sl 9 xT kT))),(1,.arr rR 17)]) 2 (λx h'=>x=.tup []∧h'=heapF [(0,.box (mcX (ET c agY) (.osl 1 lR nR kR) (.sl 2 xF kF) (.sl 2 xS kS) (.sl 9 xT kT))),(1,.arr rR 17)]):=by rw[uY];exact acB c n hm agY hline lR nR kR rR kF xF kS xS kT xT
def Zp(c)(nb)(hm:c.okM nb)(A B)(lo n)(kR)(hlo:A.length=lo)(hn:c.agI.length=n)(hA:A.length+n+B.length<=1000)(kF kS kT)(xF xT):pM C0.P C0.G 18 [.ptr 0 0] (heapF [(0,.box (mcX c (.osl 1 lo n kR) (.sl 2 xF kF) (.sl 2 (c.agF.map ptL) kS) (.sl 9 xT kT))),(1,.arr ((A++c.agI++B).map enL) 17)]) 2 (λx h'=>x=.tup []∧h'=heapF [(0,.box (mcX (lM c) (.osl 1 lo n kR) (.sl 2 xF kF) (.sl 2 (c.agF.map ptL) kS) (.sl 9 xT kT))),(1,.arr ((A++(lM c).agI++B).map enL) 17)]):=by
 refine hI 2 func18 ?_;refine cSR<|oR 5 rfl<|rCi rfl (VL c.agS false (oH hm.agS) hm.ok.buso)<|oR 4 rfl<|rAl 12 rfl rfl<|oR 1 rfl<|rSt rfl<|oR 1 rfl<|rE 16<|cSR<|oR 5 rfl<|rSt rfl<|rE 22<|uR<|cSR<|oR 2 rfl<|rE 24<|aV rfl (λh1=>?_) (λh1=>?_)
 ·refine FQ ?_;have e0:=kC c;have ee:lM c=(jJ c):=e0.trans (dZ (by rw[FV h1];decide));rw[ee];exact BH rfl ⟨rfl,rfl⟩ rfl (af8 (λz=>z) rfl rfl wH rfl)
 refine mF<|cSR<|oR 2 rfl<|rE 26<|kO<|cSR<|rV (vB (((eH c.agS).2.1.kind)==1)) rfl<|oR 1 rfl<|rE 28<|aV rfl (λh2=>?_) (λh2=>?_)
 ·have h2p:=mT h2;refine cSR<|oR 5 rfl<|rV (vN n) rfl<|oR 1 rfl<|rE 35<|kO<|sX (λk=>⟨slotsF [(0,.ptr 0 0),(3,.ptr 12 0),(23,vB (!((eH c.agS).2.2))),(25,vI ((eH c.agS).2.1.kind)),(26,vB (((eH c.agS).2.1.kind)==1)),(32,.osl 1 lo n kR),(33,vN n),(34,vN k)],heapF [(0,.box (mcX ({c with agS:=(eH c.agS).1}:Co) (.osl 1 lo n kR) (.sl 2 xF kF) (.sl 2 (c.agF.map ptL) kS) (.sl 9 xT kT))),(1,.arr ((A++(oY (wO (jJ c) (eH c.agS).2.1.agY) c.agI k)++B).map enL) 17),(12,.box (rqL ((eH c.agS).2.1)))],35⟩) (λk=>k<=n) (λk=>n-k) 0 (λs=>s) (wOL (λs=>s) wT wH rfl) rfl (aE _) ?_;intro k hk;have hkn:k<=n:=hk;have hkB:k<=1000:=oH hm.agI;have hml:(oY (wO (jJ c) (eH c.agS).2.1.agY) c.agI k).length=n:=Zq.trans hn;refine cSR<|rW _ rfl (okB (ltN _ _))<|rE 36<|uR<|aV rfl (λh3=>?_) (λh3=>?_)
  ·have h3p:=af0 h3;refine mF<|uR<|kO<|cSR<|oR 1 rfl<|nW (.ptr2 1 (lo+k) 0) rfl rfl ixT ?_;obtain⟨x,hx⟩:∃y_,(oY (wO (jJ c) (eH c.agS).2.1.agY) c.agI k)[k]?=some y_:=⟨_,aA omT⟩;have hxo:=(Ii (λx h=>MN h) hm.ok.agX k) x (aB hx);refine rIx (enL x) (.agg (enL x)) rfl rfl (iH (jK hlo hx)) rfl<|rAl 39 rfl rfl<|oR 1 rfl<|rSt rfl<|rE 42<|cSR<|oR 2 rfl<|rV (vB (x.is==2)) rfl<|oR 1 rfl<|gN rfl<|gS rfl id<|jQ rfl rfl rfl rfl (λh=>h) rfl rfl rfl (.inl rfl) rfl (λhg=>tN x.agZ hxo.agZ)<|gN rfl<|gS rfl id<|gBS rfl hsT (okB (eqN _ _))<|bO rfl rfl rfl (λh=>h)<|rE 53<|aV rfl (λh4=>?_) (λh4=>?_)
   ·have hfc:(x.is=2∧lineOf x.agZ=(eH c.agS).2.1.agY):=by have z:=h4;simpa [c2a]using z
    refine cSR<|oR 1 rfl<|rSt rfl<|rE 55<|cRg<|oR 9 rfl<|rCl rfl (.inr ⟨rfl,⟨trivial,tvT,trivial⟩⟩) (MV (jJ c) nb (Aj hm) .any (.sl 2 xF kF) (.sl 9 xT kT) kS ({x with agU:=true}:Ent) (EP hxo))<|rCi rfl (RR ({x with agU:=true}:Ent) (oL (jJ c) x) (EP hxo) (by have:=GN (c:=(jJ c)) (by have:=hm.mem;exact this) x;omega))<|nW (.ptr2 1 (lo+k) 0) rfl rfl ixT ?_;have hx1:((oY (wO (jJ c) (eH c.agS).2.1.agY) c.agI k).set k (uM ({x with agU:=true}:Ent) (oL (jJ c) x)))[k]?=some (uM ({x with agU:=true}:Ent) (oL (jJ c) x)):=aZ omT;refine nM (enL x) rfl rfl rfl (⟨aG _,iH ((jK hlo hx))⟩) (uL hlo omT)<|rE 68<|cRg ?_;have b1:k+1<=1001:=aD hkB (aC 1);refine rW _ rfl (okI (bH b1 rfl))<|oR 1 rfl<|rE 70<|.mk _ (.refl _) ⟨k+1,λs=>s,wOL _ wT ⟨⟨rfl,rfl,rfl⟩,⟨rfl,(af2 (λz:List Ent=>some (Blk.arr ((A++z++B).map enL) 17)) (show(oY (wO (jJ c) (eH c.agS).2.1.agY) c.agI k).set k (uM ({x with agU:=true}:Ent) (oL (jJ c) x))=oY (wO (jJ c) (eH c.agS).2.1.agY) c.agI (k+1)from by rw[<-Cg hx,TS hfc])),rfl⟩,⟨rfl,rfl,rfl⟩,trivial⟩ rfl,rfl,oT,by show n-(k+1)<n-k;omega⟩
   have hfc: ¬(x.is=2∧lineOf x.agZ=(eH c.agS).2.1.agY):=by have z:=h4;simpa [c2a]using z
   refine mF<|cRg ?_;have b2:k+1<=1001:=aD hkB (aC 1);refine rW _ rfl (okI (bH b2 rfl))<|oR 1 rfl<|rE 55<|.mk _ (.refl _) ⟨k+1,λs=>s,wOL _ wT ⟨⟨rfl,rfl,rfl⟩,⟨rfl,(af2 (λz:List Ent=>some (Blk.arr ((A++z++B).map enL) 17)) (show oY (wO (jJ c) (eH c.agS).2.1.agY) c.agI k=oY (wO (jJ c) (eH c.agS).2.1.agY) c.agI (k+1)from OC hx (WN hfc))),rfl⟩,⟨rfl,rfl,rfl⟩,trivial⟩ rfl,rfl,oT,by show n-(k+1)<n-k;omega⟩
  have h3p:=aF h3;refine Bh ?_;have e0:=kC c;have ee:lM c={jJ c with agI:=c.agI.map (wO (jJ c) (eH c.agS).2.1.agY)}:=((e0.trans (af1 (dQ (sI h1)))).trans (af1 h2p));rw[ee];exact BH rfl ⟨rfl,rfl⟩ rfl (af8 (λz=>z) rfl rfl ⟨⟨rfl,rfl,rfl⟩,⟨rfl,(af2 (λz:List Ent=>some (Blk.arr ((A++z++B).map enL) 17)) (EQ omT)),rfl⟩,trivial⟩ rfl)
 have h2p:=nA h2;refine cSR<|rV (vB (((eH c.agS).2.1.kind)==2)) rfl<|oR 1 rfl<|rE 30<|aV rfl (λh5=>?_) (λh5=>?_)
 ·have h5p:=mT h5;refine cRg<|oR 8 rfl<|rCi rfl (Re c.agO (eH c.agS).2.1.agY oZ false hm.ok.agO (wY hm.ok.buso).2.2)<|oR 7 rfl<|rSt rfl<|rE 47 ?_;have e0:=kC c;have ee:lM c={jJ c with agO:=(qZ c.agO (eH c.agS).2.1.agY oZ false).1}:=(((e0.trans (af1 (dQ (sI h1)))).trans (dZ h2p)).trans (af1 h5p));rw[ee];exact BH rfl ⟨rfl,rfl⟩ rfl (af8 (λz=>z) rfl rfl wH rfl)
 have h5p:=nA h5;refine cSR<|rV (vB (((eH c.agS).2.1.kind)==3)) rfl<|oR 1 rfl<|rE 32<|aV rfl (λh6=>?_) (λh6=>?_)
 ·have h6p:=mT h6;refine cRg<|oR 3 rfl<|fU _ rfl rfl rfl ((Zo (jJ c) nb (Aj hm) (eH c.agS).2.1.agY (wY hm.ok.buso).2.2 lo n kR ((A++c.agI++B).map enL) kF xF kS (c.agF.map ptL) kT xT).fB (λz=>z)) ?_;rintro _ _ ⟨rfl,rfl⟩;refine rE 36 ?_;have e0:=kC c;have ee:lM c=ET (jJ c) (eH c.agS).2.1.agY:=(((((e0.trans (af1 (dQ (sI h1)))).trans (dZ h2p)).trans (dZ h5p)).trans (af1 h6p))).trans (uY _ _).symm;rw[ee];exact BH rfl ⟨rfl,rfl⟩ rfl (af8 (λz=>z) rfl rfl wH rfl)
 have h6p:=nA h6;refine cSR<|rV (vB (((eH c.agS).2.1.kind)==4)) rfl<|oR 1 rfl<|rE 34<|aV rfl (λh7=>?_) (λh7=>?_)
 all_goals
  first|(have h7p:=mT h7;refine cRg<|oR 10 rfl<|rV (.agg [vU ((eH c.agS).2.1.agY),.v (.string ((eH c.agS).2.1.data))]) rfl<|rV (.sl 2 ([[vU ((eH c.agS).2.1.agY),.v (.string ((eH c.agS).2.1.data))]]) true) rfl<|rCi rfl (QX c.mem [⟨(eH c.agS).2.1.agY,(eH c.agS).2.1.data⟩] true (oH hm.mem) (by show 1<=1000000;decide) (sK ⟨(wY hm.ok.buso).2.2⟩))<|oR 3 rfl<|rSt rfl<|rE 51 ?_)|(have h7p:=nA h7;refine mF ?_)
  have e0:=kC c
  first|have ee:lM c={jJ c with mem:=rP c.mem [⟨(eH c.agS).2.1.agY,(eH c.agS).2.1.data⟩]}:=(((((e0.trans (af1 (dQ (sI h1)))).trans (dZ h2p)).trans (dZ h5p)).trans (dZ h6p)).trans (af1 h7p))|have ee:lM c=(jJ c):=(((((e0.trans (af1 (dQ (sI h1)))).trans (dZ h2p)).trans (dZ h5p)).trans (dZ h6p)).trans (dZ h7p))
  rw[ee];exact BH rfl ⟨rfl,rfl⟩ rfl (af8 (λz=>z) rfl rfl wH rfl)
def WO(c)(nb)(hm:c.okM nb)(h0:c.agI=[])(kF kS kT)(xF xT):pM C0.P C0.G 18 [.ptr 0 0] (heapF [(0,.box (mcX c (.sl 17 [] false) (.sl 2 xF kF) (.sl 2 (c.agF.map ptL) kS) (.sl 9 xT kT)))]) 1 (λx h'=>x=.tup []∧h'=heapF [(0,.box (mcX (lM c) (.sl 17 [] false) (.sl 2 xF kF) (.sl 2 (c.agF.map ptL) kS) (.sl 9 xT kT)))]):=by
 refine hI 1 func18 ?_;refine cSR<|oR 5 rfl<|rCi rfl (VL c.agS false (oH hm.agS) hm.ok.buso)<|oR 4 rfl<|rAl 11 rfl rfl<|oR 1 rfl<|rSt rfl<|oR 1 rfl<|rE 15<|cSR<|oR 5 rfl<|rSt rfl<|rE 21<|uR<|cSR<|oR 2 rfl<|rE 23<|aV rfl (λh1=>?_) (λh1=>?_)
 ·refine FQ ?_;have e0:=kC c;have ee:lM c=(jJ c):=e0.trans (dZ (by rw[FV h1];decide));rw[ee];exact BH rfl ⟨rfl,rfl⟩ rfl (af8 (λz=>z) rfl rfl wH rfl)
 refine mF<|cSR<|oR 2 rfl<|rE 25<|kO<|cSR<|rV (vB (((eH c.agS).2.1.kind)==1)) rfl<|oR 1 rfl<|rE 27<|aV rfl (λh2=>?_) (λh2=>?_)
 ·have h2p:=mT h2;refine cSR<|oR 5 rfl<|rW _ rfl (vW enL ([]:List Ent) omT)<|oR 1 rfl<|rE 34<|kO<|sX (λk=>⟨slotsF [(0,.ptr 0 0),(3,.ptr 11 0),(23,vB (!((eH c.agS).2.2))),(25,vI ((eH c.agS).2.1.kind)),(26,vB (((eH c.agS).2.1.kind)==1)),(32,.sl 17 (([]:List Ent).map enL) false),(33,vN 0),(34,vN k)],heapF [(0,.box (mcX ({c with agS:=(eH c.agS).1}:Co) (.sl 17 (([]:List Ent).map enL) false) (.sl 2 xF kF) (.sl 2 (c.agF.map ptL) kS) (.sl 9 xT kT))),(11,.box (rqL ((eH c.agS).2.1)))],34⟩) (λk=>k<=0) (λk=>0-k) 0 (λs=>s) (wOL (λs=>s) wT wH rfl) rfl (aE _) ?_;intro k hk;have hkB:k<=1000:=oT;refine cSR<|rW _ rfl (okB (ltN _ _))<|rE 35<|uR<|aV rfl (λh3=>by exact absurd (af0 h3) (dG _)) (λ_=>?_);refine Bh ?_;have e0:=kC c;have ee:lM c={jJ c with agI:=c.agI.map (wO (jJ c) (eH c.agS).2.1.agY)}:=((e0.trans (af1 (dQ (sI h1)))).trans (af1 h2p));rw[ee];exact BH rfl ⟨rfl,rfl⟩ rfl (af8 (λz=>z) rfl rfl wH rfl)
 have h2p:=nA h2;refine cSR<|rV (vB (((eH c.agS).2.1.kind)==2)) rfl<|oR 1 rfl<|rE 29<|aV rfl (λh4=>?_) (λh4=>?_)
 ·have h4p:=mT h4;refine cRg<|oR 8 rfl<|rCi rfl (Re c.agO (eH c.agS).2.1.agY oZ false hm.ok.agO (wY hm.ok.buso).2.2)<|oR 7 rfl<|rSt rfl<|rE 46 ?_;have e0:=kC c;have ee:lM c={jJ c with agO:=(qZ c.agO (eH c.agS).2.1.agY oZ false).1}:=(((e0.trans (af1 (dQ (sI h1)))).trans (dZ h2p)).trans (af1 h4p));rw[ee];exact BH rfl ⟨rfl,rfl⟩ rfl (af8 (λz=>z) rfl rfl wH rfl)
 have h4p:=nA h4;refine cSR<|rV (vB (((eH c.agS).2.1.kind)==3)) rfl<|oR 1 rfl<|rE 31<|aV rfl (λh5=>?_) (λh5=>?_)
 ·have h5p:=mT h5;refine cRg<|oR 3 rfl<|fU _ rfl rfl rfl ((ab6 (jJ c) nb (Aj hm) (eH c.agS).2.1.agY (wY hm.ok.buso).2.2 false [] kF xF kS (c.agF.map ptL) kT xT).fB (λz=>z)) ?_;rintro _ _ ⟨rfl,rfl⟩;refine rE 35 ?_;have e0:=kC c;have ee:lM c=ET (jJ c) (eH c.agS).2.1.agY:=(((((e0.trans (af1 (dQ (sI h1)))).trans (dZ h2p)).trans (dZ h4p)).trans (af1 h5p))).trans (uY _ _).symm;rw[ee];exact BH rfl ⟨rfl,rfl⟩ rfl (af8 (λz=>z) rfl rfl wH rfl)
 have h5p:=nA h5;refine cSR<|rV (vB (((eH c.agS).2.1.kind)==4)) rfl<|oR 1 rfl<|rE 33<|aV rfl (λh6=>?_) (λh6=>?_)
 all_goals
  first|(have h6p:=mT h6;refine cRg<|oR 10 rfl<|rV (.agg [vU ((eH c.agS).2.1.agY),.v (.string ((eH c.agS).2.1.data))]) rfl<|rV (.sl 2 ([[vU ((eH c.agS).2.1.agY),.v (.string ((eH c.agS).2.1.data))]]) true) rfl<|rCi rfl (QX c.mem [⟨(eH c.agS).2.1.agY,(eH c.agS).2.1.data⟩] true (oH hm.mem) (by show 1<=1000000;decide) (sK ⟨(wY hm.ok.buso).2.2⟩))<|oR 3 rfl<|rSt rfl<|rE 50 ?_)|(have h6p:=nA h6;refine mF ?_)
  have e0:=kC c
  first|have ee:lM c={jJ c with mem:=rP c.mem [⟨(eH c.agS).2.1.agY,(eH c.agS).2.1.data⟩]}:=(((((e0.trans (af1 (dQ (sI h1)))).trans (dZ h2p)).trans (dZ h4p)).trans (dZ h5p)).trans (af1 h6p))|have ee:lM c=(jJ c):=(((((e0.trans (af1 (dQ (sI h1)))).trans (dZ h2p)).trans (dZ h4p)).trans (dZ h5p)).trans (dZ h6p))
  rw[ee];exact BH rfl ⟨rfl,rfl⟩ rfl (af8 (λz=>z) rfl rfl wH rfl)
def FU{c}{n}{s}(h:c.okM n)(hb:n+1<=890000)(hs:s.ok):(tM c s).okM (n+1):=by
 have hr:(c.agG++[s]).length<=n+1:=by have:=h.ok.ret;simp;omega
 exact⟨⟨h.ok.agL,h.ok.prog,h.ok.progo,h.ok.r,h.ok.agM,aE _,(λx hx=>by cases hx),aE _,(λx hx=>by cases hx),h.ok.sto,h.ok.stoo,h.ok.data,h.ok.agO,qJ h.ok.agS,h.ok.buso,h.ok.asked,h.ok.agT,h.ok.mem,h.ok.agK,hr,sJ h.ok.reto (sK hs)⟩,hb,h.cf,h.data,h.agO,h.agK,aE _,aE _,h.sto,h.prog,h.mem,h.std⟩
theorem Ah:∀{n:Nat} {c:Co} {m:Nat},c.okM m->m+2*n<=890000->(eC n c).okM (m+2*n)
 |0,_,_,h,_=>h
 | n + 1,c,m,h,hb=>by
  have hmn:m<=m+2*(n+1):=oT;by_cases h0:c.halt≠0∨c.agI.length=0
  ·rw[mG h0];exact h.mono hmn hb
  ·have hx:c.agI[0]?=some (c.agI[0]'omT):=aA omT;have he:=WV h hx;rw[iX omT (λq=>h0 (.inl q)) hx];split
   ·exact h.mono hmn hb
   ·split
    ·exact(FU h omT (fE he)).mono omT hb
    ·split
     ·exact h.mono hmn hb
     ·rename_i hs;have hst:(cA (c.agI[0]'omT)).store=true->c.agF.length<=999:=λq=>by
       have:=pD h.cf;have: ¬(c.agF.length:Int)>=c.agL.agF:=λz=>hs ⟨q,z⟩;omega
      rw[kB,(oT:m+2*(n+1)=(m+2)+2*n)];by_cases hk:kindOf (c.agI[0]'omT).i.op=3
      ·rw[Ke hk];exact Ah (GJ h omT he hst) omT
      ·rw[An hk];exact Ah (xZ h omT he hst) omT
def TR{c:Co}{n:Nat}(h:c.okM n):c.agL.agN.toNat<=2:=oH (pD h.cf)
def Ih{c}{m}(h:c.okM m)(hb:m+4<=890000):(af7 c).okM (m+4):=by
 have hw:=TR h;exact(Ah h omT).mono omT hb
theorem EM:∀{p:List Nat} {c:Co} {m:Nat},c.okM m->m+p.length<=890000->(p.foldl iS c).okM (m+p.length)
 |[],_,_,h,_=>h
 |i::p,c,m,h,hb=>by
  have hl:(i::p).length=p.length+1:=rfl;rw[hl]at hb⊢;rw[(oT:m+(p.length+1)=(m+1)+p.length)];exact EM (yY h omT i).1 omT
def JX{c}{m}(h:c.okM m)(hb:m+2<=890000):(gY c).okM (m+2):=by
 by_cases hh:c.halt≠0
 ·rw[show gY c=c from af1 hh];exact h.mono omT hb
 obtain⟨p, -,hp, -,hl⟩:=Ao h.cf hh rfl;rw[hp];exact(EM h omT).mono omT hb
theorem Dq:∀{p:List Nat} {c:Co} {m:Nat},c.okM m->m+p.length<=890000->(p.foldl iS c).agI.length=c.agI.length∧(p.foldl iS c).agF=c.agF∧(p.foldl iS c).agH=c.agH∧(p.foldl iS c).agG=c.agG
 |[],_,_,_,_=>⟨rfl,rfl,rfl,rfl⟩
 |i::p,c,m,h,hb=>by
  have hl:(i::p).length=p.length+1:=rfl;rw[hl]at hb;have hs:=yY h omT i;have ih:=Dq (p:=p) hs.1 omT;exact⟨ih.1.trans hs.2.1,ih.2.1.trans hs.2.2.2.1,ih.2.2.1.trans hs.2.2.2.2.1,ih.2.2.2.trans hs.2.2.2.2.2⟩
def nO{c}{m}(h:c.okM m)(hb:m+2<=890000):(gY c).agI.length=c.agI.length∧(gY c).agF=c.agF∧(gY c).agH=c.agH∧(gY c).agG=c.agG:=by
 by_cases hh:c.halt≠0
 ·rw[show gY c=c from af1 hh];exact⟨rfl,rfl,rfl,rfl⟩
 obtain⟨p, -,hp, -,hl⟩:=Ao h.cf hh rfl;rw[hp];exact Dq h omT
theorem EN:∀{n:Nat} {c:Co} {m:Nat},c.okM m->(kV n c).okM m∧(kV n c).agF=c.agF∧(kV n c).agG=c.agG
 |0,_,_,h=>⟨h,rfl,rfl⟩
 | n+1,c,m,h=>by
  by_cases h0:(c.agI.length:Int)>=c.agL.agI∨c.agH.length=0
  ·rw[Ap h0];exact⟨h,rfl,rfl⟩
  ·have hx:c.agH[0]?=some (c.agH[0]'omT):=aA omT;have hf:=h.ok.feto _ (aB hx);have hr:c.agI.length<=999:=oH (pD h.cf);have e:=CU (n:=n+1) (k:=0) omT (λq=>h0 (.inl q)) hx;rw[(oT:n+1-(0+1)=n),(oT:n+1-0=n+1)]at e;rw[<-e];have ih:=EN (n:=n) (CV h hf hr);exact⟨ih.1,ih.2.1,ih.2.2⟩
def Ai{c}{m}(h:c.okM m):(lP c).okM m∧(lP c).agF=c.agF∧(lP c).agG=c.agG:=by
 unfold lP;split
 ·exact⟨h,rfl,rfl⟩
 exact EN h
def LF(c)(w):(dM c w).1.agF=c.agF∧(dM c w).1.agG=c.agG∧(dM c w).1.agI=c.agI:=by
 unfold dM;split
 ·exact⟨rfl,rfl,rfl⟩
 split<;>exact⟨rfl,rfl,rfl⟩
def LG(d:Co):(zP d).agF=d.agF∧(zP d).agG=d.agG∧(zP d).agI=d.agI:=LF _ _
def JY{c:Co}{m}(h:c.okM m)(hf:c.agH.length<=999):Co.okM {c with agH:=c.agH++[⟨c.agM,up4 c.agM⟩],stop:=true} m:=by
 have hl:(c.agH++[(⟨c.agM,up4 c.agM⟩:Ft)]).length<=1000:=by simp;omega
 exact⟨⟨h.ok.agL,h.ok.prog,h.ok.progo,h.ok.r,h.ok.agM,aL hl dT,sJ h.ok.feto (sK ⟨h.ok.agM,uT _⟩),h.ok.agI,h.ok.agX,h.ok.sto,h.ok.stoo,h.ok.data,h.ok.agO,h.ok.agS,h.ok.buso,h.ok.asked,h.ok.agT,h.ok.mem,h.ok.agK,h.ok.ret,h.ok.reto⟩,h.nb,h.cf,h.data,h.agO,h.agK,h.agI,hl,h.sto,h.prog,h.mem,h.std⟩
theorem Dr:∀{n:Nat} {c:Co} {m:Nat},c.okM m->m+1<=890000->(eL n c).okM (m+1)∧(eL n c).agF=c.agF∧(eL n c).agG=c.agG∧(eL n c).agI=c.agI
 |0,_,_,h,hb=>⟨h.mono (fF _) hb,rfl,rfl,rfl⟩
 | n +1,c,m,h,hb=>by
  have h1:=h.mono (fF m) hb;by_cases h0:c.stop=true∨(c.agH.length:Int)>=c.agL.queue
  ·rw[yZ h0];exact⟨h1,rfl,rfl,rfl⟩
  ·have hl:c.agH.length<=999:=oH (pD h.cf);by_cases hf:(fetchP c.prog c.agM).isSome=false
   ·rw[Aq omT h0 hf];exact⟨JY h1 hl,rfl,rfl,rfl⟩
   ·by_cases hw:(bK c.agO (lineOf c.agM)).2.isSome=false
    ·rw[uD omT h0 hf hw];split
     ·exact⟨sH h hb 2 (dV h.ok.agM) oZ,rfl,rfl,rfl⟩
     ·exact⟨h1,rfl,rfl,rfl⟩
    ·have e:=BC (n:=n+1) (k:=0) omT h0 hf hw;rw[(oT:n+1-(0+1)=n),(oT:n+1-0=n+1)]at e;rw[<-e];have ih:=Dr (n:=n) (CW h hl) hb;have hk:=LG c;exact⟨ih.1,ih.2.1.trans hk.1,ih.2.2.1.trans hk.2.1,ih.2.2.2.trans hk.2.2⟩
def uX{c}{m}(h:c.okM m)(hb:m+1<=890000):(eN c).okM (m+1)∧(eN c).agF=c.agF∧(eN c).agG=c.agG∧(eN c).agI=c.agI:=by
 unfold eN;split
 ·exact⟨h.mono (fF _) hb,rfl,rfl,rfl⟩
 exact Dr h hb
def JZ{c}{m}(h:c.okM m)(hb:m+1<=890000):(tW c).okM (m+1)∧(tW c).agH=c.agH∧(tW c).agG=c.agG∧(tW c).agI=c.agI∧(tW c).agF=c.agF:=by
 unfold tW
 cases hs:c.agF with
 |nil=>exact⟨h.mono (fF _) hb,rfl,rfl,rfl,hs⟩
 |cons p l=>
  dsimp only;split
  ·exact⟨sH h hb 3 (dV (h.ok.stoo p (by rw[hs];exact al_List_mem_cons_self ..)).agZ) oZ,rfl,rfl,rfl,hs⟩
  ·exact⟨h.mono (fF _) hb,rfl,rfl,rfl,hs⟩
def EO{c}{m}(h:c.okM m)(hb:m+1<=890000):(nP c).okM (m+1)∧(nP c).agH=c.agH∧(nP c).agG=c.agG∧(nP c).agI=c.agI∧(nP c).agF=c.agF:=by
 have h1:=h.mono (fF m) hb;unfold nP;split
 ·exact⟨h1,rfl,rfl,rfl,rfl⟩
 by_cases hq:(cR c.data).isSome=true∧((cR c.data).getD qE).data.size≠0
 ·rw[uZ hq];have ha:=sH h hb 4 h.gd.dirtyLe ((cR c.data).getD qE).data;have g:=ab7.1 (h.gd.clean ((cR c.data).getD qE).agY);exact⟨⟨⟨ha.ok.agL,ha.ok.prog,ha.ok.progo,ha.ok.r,ha.ok.agM,ha.ok.fet,ha.ok.feto,ha.ok.agI,ha.ok.agX,ha.ok.sto,ha.ok.stoo,g.2,ha.ok.agO,ha.ok.agS,ha.ok.buso,ha.ok.asked,ha.ok.agT,ha.ok.mem,ha.ok.agK,ha.ok.ret,ha.ok.reto⟩,hb,ha.cf,g.1,ha.agO,ha.agK,ha.agI,ha.fet,ha.sto,ha.prog,ha.mem,ha.std⟩,rfl,rfl,rfl,rfl⟩
 rw[wZ hq];exact⟨h1,rfl,rfl,rfl,rfl⟩
def wX{c}{m}(h:c.okM m)(hb:m+2<=890000):(tY c).okM (m+2)∧(tY c).agH=c.agH∧(tY c).agG=c.agG∧(tY c).agI=c.agI:=by
 rw[mO];have h0:=eR h;split
 ·have ha:=JZ h0 omT;have hB:=EO ha.1 omT;exact⟨hB.1,hB.2.1.trans ha.2.1,hB.2.2.1.trans ha.2.2.1,hB.2.2.2.1.trans ha.2.2.2.1⟩
 have hB:=EO h0 omT;exact⟨hB.1.mono omT hb,hB.2.1,hB.2.2.1,hB.2.2.2.1⟩
def rG(c):(lM c).agH=c.agH∧(lM c).agF=c.agF∧(lM c).agG=c.agG∧(lM c).agI.length=c.agI.length:=by
 rw[kC];split
 ·unfold ID
  repeat' split
  ·exact⟨rfl,rfl,rfl,aH ..⟩
  ·exact⟨rfl,rfl,rfl,rfl⟩
  ·rw[<-uY];exact⟨rfl,rfl,rfl,rfl⟩
  ·exact⟨rfl,rfl,rfl,rfl⟩
  exact⟨rfl,rfl,rfl,rfl⟩
 exact⟨rfl,rfl,rfl,rfl⟩
def mC(c):(kK c).agF=c.agF∧(kK c).agG=c.agG:=by
 unfold kK;split
 ·exact⟨rfl,rfl⟩
 split<;>exact⟨rfl,rfl⟩
end Go.Proofs.YtlpkggpdjobpmaaGreatDoor
