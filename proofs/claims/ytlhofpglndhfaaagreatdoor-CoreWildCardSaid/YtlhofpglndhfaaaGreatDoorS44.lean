/- Joined texts. -/
import Derived.Test.YtlhofpglndhfaaaGreatDoorS1
import Derived.Test.YtlhofpglndhfaaaGreatDoorS32
import Derived.Test.YtlhofpglndhfaaaGreatDoorS43
namespace Go.Proofs.YtlhofpglndhfaaaGreatDoor
set_option maxRecDepth 100000
set_option maxHeartbeats 4000000
open Go.RowKit
theorem Jj{no:Int}{f:Ft}{prog:List Nat}(hf:f.ok):(iH no f prog).ok:=by
 have hi:(cJ (fetchW prog f.pc)).imm≤4294967295:=Ti (CA _);unfold iH
 repeat' split
 all_goals first|exact⟨hf.pc,SV _,hf.guess,SV _,SV _,SV _⟩|exact⟨hf.pc,hi,hf.guess,SV _,qH _,SV _⟩|exact⟨hf.pc,hi,hf.guess,SV _,SV _,SV _⟩|exact⟨hf.pc,hi,hf.guess,SV _,hf.pc,SV _⟩
def AR(d:Co)(f:Ft):Co:={d with rob:=d.rob++[iH d.next f d.prog],next:=wrap64 (d.next+1),fetched:=d.fetched.drop 1}
theorem nJ{d:Co}{n:Nat}(h:(d.rob.length:Int)≥d.conf.rob∨d.fetched.length=0):eC n d=d:=by
 cases n with
 |zero=>rfl
 | succ n=>
  unfold eC;by_cases h1:(d.rob.length:Int)≥d.conf.rob
  ·exact if_pos h1
  ·rw[if_neg h1];have hz:d.fetched=[]:=Tm (h.resolve_left h1);rw[hz]
theorem sB{d:Co}{n k:Nat}{f:Ft}(hn:k<n)(h: ¬ (d.rob.length:Int)≥d.conf.rob)(hf:d.fetched[0]?=some f):eC (n - (k+1)) (AR d f)=eC (n - k) d:=by
 rw[show n - k=(n - (k+1))+1 by omega]
 conv=>rhs;unfold eC
 rw[if_neg h];unfold AR
 cases hz:d.fetched with
 |nil=>rw[hz]at hf;cases hf
 |cons y l=>rw[hz]at hf;injection hf with hf;subst hf;rfl
theorem vG{c:Co}{n:Nat}{f:Ft}(h:c.okM n)(hf:f.ok)(hr:c.rob.length≤999):(AR c f).okM n:=by
 have hl:(c.rob++[iH c.next f c.prog]).length≤1000:=by simp;omega
 have hd:(c.fetched.drop 1).length≤1000:=by have:=h.fet;rw[Tn];omega
 exact⟨⟨h.ok.conf,h.ok.prog,h.ok.progo,h.ok.r,h.ok.fetch,Tb hd (by decide),Cn h.ok.feto,Tb hl (by decide),gE h.ok.robo (gF (P:=Ent.ok) (Jj hf)),h.ok.sto,h.ok.stoo,h.ok.data,h.ok.words,h.ok.bus,h.ok.buso,h.ok.asked,h.ok.guessed,h.ok.mem,h.ok.guess,h.ok.ret,h.ok.reto⟩,h.nb,h.cf,h.data,h.words,h.guess,hl,hd,h.sto,h.prog,h.mem,h.std⟩
theorem Ni(rob:List Ent)(ck:Bool)(no:Int)(f:Ft)(prog:List Nat)(hl:rob.length≤1000)(ho:∀ x∈rob,x.ok)(hf:f.ok)(hp:∀ x∈prog,x≤4294967295)(hpl:prog.length≤1000000):aT C0 112 [.sl 17 (rob.map enL) ck,vI no,.agg (ftL f),.sl 1 (prog.map cN) false] (.sl 17 ((rob++[iH no f prog]).map enL) false):=by
 refine dc1 (aT.intro c1Ok Tryz.func112 rfl rfl (by kernel_rfl) rfl ?_);refine aA<|aB rfl<|rAl 0 rfl rfl<|oR 1 rfl<|rE 2<|aA<|aB rfl<|oR 5 rfl<|rV (.agg [vI no,vU f.pc,vI 0,vI 0,vI 0,vI 0,zU,vU f.guess,vI 0,vI 0,zU,zU,zU,vI 0,vI 0,vB false,vB false]) rfl<|rAl 8 rfl rfl<|rSt rfl<|rE 10<|aA<|aB rfl<|oR 3 rfl<|rCi rfl (Kq prog f.pc false hp hpl hf.pc) ?_;refine oR 5 rfl<|rE 19<|aA<|aB rfl<|oR 1 rfl<|rCi rfl (Fe (fetchW prog f.pc) (uU (EW hp f.pc)))<|oR 3 rfl<|rAl 24 rfl rfl<|rSt rfl<|oR 1 rfl<|rE 27<|aA<|aK<|aA<|aB rfl<|oR 3 rfl ?_;refine rE 30 ?_;refine aE rfl (λ h1=>?_) (λ h1=>?_)
 ·refine aB rfl<|oR 1 rfl<|rSt rfl<|rE 32<|aA<|aA<|aB rfl<|oR 2 rfl<|rV (vB (1 != 0)) rfl<|rE 35 ?_;refine aE rfl (λ _=>?_) (λ h2=>by exact absurd h2 (by decide));refine aB rfl<|oR 1 rfl<|rSt rfl<|rE 37<|aA<|aB rfl<|oR 2 rfl<|rW (vN rob.length) rfl (aN enL rob)<|oR 1 rfl<|rW (vN rob.length) rfl (aN enL rob) ?_;refine nW (.sl 17 ((rob.take rob.length).map enL) true) rfl (oO (mM enL rob rob.length)) (by refine⟨?_,?_,?_,?_⟩;all_goals (first|exact SZ _|decide|(apply WD.2;exact omT)|(show (_:Int)=(_:Int);congr 1;omega)|rfl)) ?_;refine oR 1 rfl<|rV (.sl 17 ([[vI no,vU f.pc,vI 0,vI 0,vI 0,vI 0,zU,vU f.guess,vI 3,vI 0,zU,zU,zU,vI 1,vI 0,vB false,vB false]]) true) rfl<|rFx (x:=.osl 45 0 (rob.length+1) false) (h':=upd _ 45 (some (.arr (((rob.take rob.length)++([(⟨no,f.pc,⟨0,0,0,0,0⟩,f.guess,3,0,0,0,0,1,0,false,false⟩:Ent)])).map enL) 17))) rfl rfl (rH enL (rob.take rob.length) ([(⟨no,f.pc,⟨0,0,0,0,0⟩,f.guess,3,0,0,0,0,1,0,false,false⟩:Ent)]) omT) (⟨by exact omT,by exact omT,trivial,trivial⟩)<|oR 1 rfl<|rE 47<|bC ?_;have e:(⟨no,f.pc,⟨0,0,0,0,0⟩,f.guess,3,0,0,0,0,1,0,false,false⟩:Ent)=iH no f prog:=by unfold iH;rw[if_pos (yW h1)];rfl
  refine aL rfl (by show 0+(rob.length+1)≤(((rob.take rob.length)++([(⟨no,f.pc,⟨0,0,0,0,0⟩,f.guess,3,0,0,0,0,1,0,false,false⟩:Ent)])).map enL).length;exact omT) rfl ?_;show AV.sl 17 (List.take (rob.length+1) (List.drop 0 (((rob.take rob.length)++([(⟨no,f.pc,⟨0,0,0,0,0⟩,f.guess,3,0,0,0,0,1,0,false,false⟩:Ent)])).map enL))) false=_;rw[eG enL ((rob.take rob.length)++([(⟨no,f.pc,⟨0,0,0,0,0⟩,f.guess,3,0,0,0,0,1,0,false,false⟩:Ent)])) omT];rw[e,TW]
 ·refine aA<|aB rfl<|oR 1 rfl<|rW (vB ((decE (fetchW prog f.pc)) != 0)) rfl (okB (neN _ _))<|oR 1 rfl<|rE 33 ?_;refine aE rfl (λ h3=>?_) (λ h3=>?_)
  ·have h3p:=nY h3;refine aB rfl<|oR 1 rfl<|rSt rfl<|rE 35<|aA<|aA<|aB rfl<|oR 2 rfl<|rV (vB (2 != 0)) rfl<|rE 38 ?_;refine aE rfl (λ _=>?_) (λ h4=>by exact absurd h4 (by decide));refine aB rfl<|oR 1 rfl<|rSt rfl<|rE 40<|aA<|aB rfl<|oR 2 rfl<|rW (vN rob.length) rfl (aN enL rob)<|oR 1 rfl<|rW (vN rob.length) rfl (aN enL rob) ?_;refine nW (.sl 17 ((rob.take rob.length).map enL) true) rfl (oO (mM enL rob rob.length)) (by refine⟨?_,?_,?_,?_⟩;all_goals (first|exact SZ _|decide|(apply WD.2;exact omT)|(show (_:Int)=(_:Int);congr 1;omega)|rfl)) ?_;refine oR 1 rfl<|rV (.sl 17 ([[vI no,vU f.pc,vI 0,vI 0,vI 0,vI 0,zU,vU f.guess,vI 3,vI 0,zU,zU,zU,vI 2,vI 0,vB false,vB false]]) true) rfl<|rFx (x:=.osl 48 0 (rob.length+1) false) (h':=upd _ 48 (some (.arr (((rob.take rob.length)++([(⟨no,f.pc,⟨0,0,0,0,0⟩,f.guess,3,0,0,0,0,2,0,false,false⟩:Ent)])).map enL) 17))) rfl rfl (rH enL (rob.take rob.length) ([(⟨no,f.pc,⟨0,0,0,0,0⟩,f.guess,3,0,0,0,0,2,0,false,false⟩:Ent)]) omT) (⟨by exact omT,by exact omT,trivial,trivial⟩)<|oR 1 rfl<|rE 50<|bC ?_;have e:(⟨no,f.pc,⟨0,0,0,0,0⟩,f.guess,3,0,0,0,0,2,0,false,false⟩:Ent)=iH no f prog:=by unfold iH;rw[if_neg (jF h1),if_pos (by have q:=wE (fetchW prog f.pc);omega)];rfl
   refine aL rfl (by show 0+(rob.length+1)≤(((rob.take rob.length)++([(⟨no,f.pc,⟨0,0,0,0,0⟩,f.guess,3,0,0,0,0,2,0,false,false⟩:Ent)])).map enL).length;exact omT) rfl ?_;show AV.sl 17 (List.take (rob.length+1) (List.drop 0 (((rob.take rob.length)++([(⟨no,f.pc,⟨0,0,0,0,0⟩,f.guess,3,0,0,0,0,2,0,false,false⟩:Ent)])).map enL))) false=_;rw[eG enL ((rob.take rob.length)++([(⟨no,f.pc,⟨0,0,0,0,0⟩,f.guess,3,0,0,0,0,2,0,false,false⟩:Ent)])) omT];rw[e,TW]
  ·have h3p:=nZ h3;refine aA<|aB rfl<|oR 2 rfl<|rSt rfl<|rE 36<|aA<|aB rfl<|oR 2 rfl<|rE 38<|aK<|aA<|aB rfl<|rV (vB (((cJ (fetchW prog f.pc)).op)==47)) rfl<|oR 1 rfl<|rE 40 ?_;refine aE rfl (λ h5=>?_) (λ h5=>?_)
   ·have h5p:=eP h5;refine aB rfl<|oR 1 rfl<|rSt rfl<|rE 42<|aA<|aA<|aB rfl<|oR 2 rfl<|rV (vB (6 != 0)) rfl<|rE 45 ?_;refine aE rfl (λ _=>?_) (λ h6=>by exact absurd h6 (by decide));refine aB rfl<|oR 1 rfl<|rSt rfl<|rE 47<|aA<|aB rfl<|oR 2 rfl<|rW (vN rob.length) rfl (aN enL rob)<|oR 1 rfl<|rW (vN rob.length) rfl (aN enL rob) ?_;refine nW (.sl 17 ((rob.take rob.length).map enL) true) rfl (oO (mM enL rob rob.length)) (by refine⟨?_,?_,?_,?_⟩;all_goals (first|exact SZ _|decide|(apply WD.2;exact omT)|(show (_:Int)=(_:Int);congr 1;omega)|rfl)) ?_;refine oR 1 rfl<|rV (.sl 17 ([[vI no,vU f.pc,vI ((cJ (fetchW prog f.pc)).op),vI ((cJ (fetchW prog f.pc)).rd),vI ((cJ (fetchW prog f.pc)).rs1),vI ((cJ (fetchW prog f.pc)).rs2),vU ((cJ (fetchW prog f.pc)).imm),vU f.guess,vI 3,vI 0,zU,zU,zU,vI 6,vI 0,vB false,vB false]]) true) rfl<|rFx (x:=.osl 55 0 (rob.length+1) false) (h':=upd _ 55 (some (.arr (((rob.take rob.length)++([(⟨no,f.pc,⟨(cJ (fetchW prog f.pc)).op,(cJ (fetchW prog f.pc)).rd,(cJ (fetchW prog f.pc)).rs1,(cJ (fetchW prog f.pc)).rs2,(cJ (fetchW prog f.pc)).imm⟩,f.guess,3,0,0,0,0,6,0,false,false⟩:Ent)])).map enL) 17))) rfl rfl (rH enL (rob.take rob.length) ([(⟨no,f.pc,⟨(cJ (fetchW prog f.pc)).op,(cJ (fetchW prog f.pc)).rd,(cJ (fetchW prog f.pc)).rs1,(cJ (fetchW prog f.pc)).rs2,(cJ (fetchW prog f.pc)).imm⟩,f.guess,3,0,0,0,0,6,0,false,false⟩:Ent)]) omT) (⟨by exact omT,by exact omT,trivial,trivial⟩)<|oR 1 rfl<|rE 57<|bC ?_;have e:(⟨no,f.pc,⟨(cJ (fetchW prog f.pc)).op,(cJ (fetchW prog f.pc)).rd,(cJ (fetchW prog f.pc)).rs1,(cJ (fetchW prog f.pc)).rs2,(cJ (fetchW prog f.pc)).imm⟩,f.guess,3,0,0,0,0,6,0,false,false⟩:Ent)=iH no f prog:=by unfold iH;rw[if_neg (jF h1),if_neg ((wE _).1 h3p),if_pos h5p];rfl
    refine aL rfl (by show 0+(rob.length+1)≤(((rob.take rob.length)++([(⟨no,f.pc,⟨(cJ (fetchW prog f.pc)).op,(cJ (fetchW prog f.pc)).rd,(cJ (fetchW prog f.pc)).rs1,(cJ (fetchW prog f.pc)).rs2,(cJ (fetchW prog f.pc)).imm⟩,f.guess,3,0,0,0,0,6,0,false,false⟩:Ent)])).map enL).length;exact omT) rfl ?_;show AV.sl 17 (List.take (rob.length+1) (List.drop 0 (((rob.take rob.length)++([(⟨no,f.pc,⟨(cJ (fetchW prog f.pc)).op,(cJ (fetchW prog f.pc)).rd,(cJ (fetchW prog f.pc)).rs1,(cJ (fetchW prog f.pc)).rs2,(cJ (fetchW prog f.pc)).imm⟩,f.guess,3,0,0,0,0,6,0,false,false⟩:Ent)])).map enL))) false=_;rw[eG enL ((rob.take rob.length)++([(⟨no,f.pc,⟨(cJ (fetchW prog f.pc)).op,(cJ (fetchW prog f.pc)).rd,(cJ (fetchW prog f.pc)).rs1,(cJ (fetchW prog f.pc)).rs2,(cJ (fetchW prog f.pc)).imm⟩,f.guess,3,0,0,0,0,6,0,false,false⟩:Ent)])) omT];rw[e,TW]
   ·have h5p:=eQ h5;refine aA<|aB rfl<|rV (vB (((cJ (fetchW prog f.pc)).op)==48)) rfl<|oR 1 rfl<|rE 42 ?_;refine aE rfl (λ h7=>?_) (λ h7=>?_)
    ·have h7p:=eP h7;refine aB rfl<|oR 1 rfl<|rSt rfl<|rE 44<|aA<|aA<|aB rfl<|oR 2 rfl<|rV (vB (7 != 0)) rfl<|rE 47 ?_;refine aE rfl (λ _=>?_) (λ h8=>by exact absurd h8 (by decide));refine aB rfl<|oR 1 rfl<|rSt rfl<|rE 49<|aA<|aB rfl<|oR 2 rfl<|rW (vN rob.length) rfl (aN enL rob)<|oR 1 rfl<|rW (vN rob.length) rfl (aN enL rob) ?_;refine nW (.sl 17 ((rob.take rob.length).map enL) true) rfl (oO (mM enL rob rob.length)) (by refine⟨?_,?_,?_,?_⟩;all_goals (first|exact SZ _|decide|(apply WD.2;exact omT)|(show (_:Int)=(_:Int);congr 1;omega)|rfl)) ?_;refine oR 1 rfl<|rV (.sl 17 ([[vI no,vU f.pc,vI ((cJ (fetchW prog f.pc)).op),vI ((cJ (fetchW prog f.pc)).rd),vI ((cJ (fetchW prog f.pc)).rs1),vI ((cJ (fetchW prog f.pc)).rs2),vU ((cJ (fetchW prog f.pc)).imm),vU f.guess,vI 3,vI 0,zU,zU,zU,vI 7,vI 0,vB false,vB false]]) true) rfl<|rFx (x:=.osl 57 0 (rob.length+1) false) (h':=upd _ 57 (some (.arr (((rob.take rob.length)++([(⟨no,f.pc,⟨(cJ (fetchW prog f.pc)).op,(cJ (fetchW prog f.pc)).rd,(cJ (fetchW prog f.pc)).rs1,(cJ (fetchW prog f.pc)).rs2,(cJ (fetchW prog f.pc)).imm⟩,f.guess,3,0,0,0,0,7,0,false,false⟩:Ent)])).map enL) 17))) rfl rfl (rH enL (rob.take rob.length) ([(⟨no,f.pc,⟨(cJ (fetchW prog f.pc)).op,(cJ (fetchW prog f.pc)).rd,(cJ (fetchW prog f.pc)).rs1,(cJ (fetchW prog f.pc)).rs2,(cJ (fetchW prog f.pc)).imm⟩,f.guess,3,0,0,0,0,7,0,false,false⟩:Ent)]) omT) (⟨by exact omT,by exact omT,trivial,trivial⟩)<|oR 1 rfl<|rE 59<|bC ?_;have e:(⟨no,f.pc,⟨(cJ (fetchW prog f.pc)).op,(cJ (fetchW prog f.pc)).rd,(cJ (fetchW prog f.pc)).rs1,(cJ (fetchW prog f.pc)).rs2,(cJ (fetchW prog f.pc)).imm⟩,f.guess,3,0,0,0,0,7,0,false,false⟩:Ent)=iH no f prog:=by unfold iH;rw[if_neg (jF h1),if_neg ((wE _).1 h3p),if_neg h5p,if_pos h7p];rfl
     refine aL rfl (by show 0+(rob.length+1)≤(((rob.take rob.length)++([(⟨no,f.pc,⟨(cJ (fetchW prog f.pc)).op,(cJ (fetchW prog f.pc)).rd,(cJ (fetchW prog f.pc)).rs1,(cJ (fetchW prog f.pc)).rs2,(cJ (fetchW prog f.pc)).imm⟩,f.guess,3,0,0,0,0,7,0,false,false⟩:Ent)])).map enL).length;exact omT) rfl ?_;show AV.sl 17 (List.take (rob.length+1) (List.drop 0 (((rob.take rob.length)++([(⟨no,f.pc,⟨(cJ (fetchW prog f.pc)).op,(cJ (fetchW prog f.pc)).rd,(cJ (fetchW prog f.pc)).rs1,(cJ (fetchW prog f.pc)).rs2,(cJ (fetchW prog f.pc)).imm⟩,f.guess,3,0,0,0,0,7,0,false,false⟩:Ent)])).map enL))) false=_;rw[eG enL ((rob.take rob.length)++([(⟨no,f.pc,⟨(cJ (fetchW prog f.pc)).op,(cJ (fetchW prog f.pc)).rd,(cJ (fetchW prog f.pc)).rs1,(cJ (fetchW prog f.pc)).rs2,(cJ (fetchW prog f.pc)).imm⟩,f.guess,3,0,0,0,0,7,0,false,false⟩:Ent)])) omT];rw[e,TW]
    ·have h7p:=eQ h7;refine aF<|aA<|aA<|aB rfl<|oR 2 rfl<|rV (vB (0 != 0)) rfl<|rE 45 ?_;refine aE rfl (λ h9=>by exact absurd h9 (by decide)) (λ _=>?_);refine aF<|aA<|aB rfl<|oR 2 rfl<|rW (vN rob.length) rfl (aN enL rob)<|oR 1 rfl<|rW (vN rob.length) rfl (aN enL rob) ?_;refine nW (.sl 17 ((rob.take rob.length).map enL) true) rfl (oO (mM enL rob rob.length)) (by refine⟨?_,?_,?_,?_⟩;all_goals (first|exact SZ _|decide|(apply WD.2;exact omT)|(show (_:Int)=(_:Int);congr 1;omega)|rfl)) ?_;refine oR 1 rfl<|rV (.sl 17 ([[vI no,vU f.pc,vI ((cJ (fetchW prog f.pc)).op),vI ((cJ (fetchW prog f.pc)).rd),vI ((cJ (fetchW prog f.pc)).rs1),vI ((cJ (fetchW prog f.pc)).rs2),vU ((cJ (fetchW prog f.pc)).imm),vU f.guess,vI 0,vI 0,zU,zU,zU,vI 0,vI 0,vB false,vB false]]) true) rfl<|rFx (x:=.osl 53 0 (rob.length+1) false) (h':=upd _ 53 (some (.arr (((rob.take rob.length)++([(⟨no,f.pc,⟨(cJ (fetchW prog f.pc)).op,(cJ (fetchW prog f.pc)).rd,(cJ (fetchW prog f.pc)).rs1,(cJ (fetchW prog f.pc)).rs2,(cJ (fetchW prog f.pc)).imm⟩,f.guess,0,0,0,0,0,0,0,false,false⟩:Ent)])).map enL) 17))) rfl rfl (rH enL (rob.take rob.length) ([(⟨no,f.pc,⟨(cJ (fetchW prog f.pc)).op,(cJ (fetchW prog f.pc)).rd,(cJ (fetchW prog f.pc)).rs1,(cJ (fetchW prog f.pc)).rs2,(cJ (fetchW prog f.pc)).imm⟩,f.guess,0,0,0,0,0,0,0,false,false⟩:Ent)]) omT) (⟨by exact omT,by exact omT,trivial,trivial⟩)<|oR 1 rfl<|rE 55<|bC ?_;have e:(⟨no,f.pc,⟨(cJ (fetchW prog f.pc)).op,(cJ (fetchW prog f.pc)).rd,(cJ (fetchW prog f.pc)).rs1,(cJ (fetchW prog f.pc)).rs2,(cJ (fetchW prog f.pc)).imm⟩,f.guess,0,0,0,0,0,0,0,false,false⟩:Ent)=iH no f prog:=by unfold iH;rw[if_neg (jF h1),if_neg ((wE _).1 h3p),if_neg h5p,if_neg h7p];rfl
     refine aL rfl (by show 0+(rob.length+1)≤(((rob.take rob.length)++([(⟨no,f.pc,⟨(cJ (fetchW prog f.pc)).op,(cJ (fetchW prog f.pc)).rd,(cJ (fetchW prog f.pc)).rs1,(cJ (fetchW prog f.pc)).rs2,(cJ (fetchW prog f.pc)).imm⟩,f.guess,0,0,0,0,0,0,0,false,false⟩:Ent)])).map enL).length;exact omT) rfl ?_;show AV.sl 17 (List.take (rob.length+1) (List.drop 0 (((rob.take rob.length)++([(⟨no,f.pc,⟨(cJ (fetchW prog f.pc)).op,(cJ (fetchW prog f.pc)).rd,(cJ (fetchW prog f.pc)).rs1,(cJ (fetchW prog f.pc)).rs2,(cJ (fetchW prog f.pc)).imm⟩,f.guess,0,0,0,0,0,0,0,false,false⟩:Ent)])).map enL))) false=_;rw[eG enL ((rob.take rob.length)++([(⟨no,f.pc,⟨(cJ (fetchW prog f.pc)).op,(cJ (fetchW prog f.pc)).rd,(cJ (fetchW prog f.pc)).rs1,(cJ (fetchW prog f.pc)).rs2,(cJ (fetchW prog f.pc)).imm⟩,f.guess,0,0,0,0,0,0,0,false,false⟩:Ent)])) omT];rw[e,TW]
theorem Jk(c:Co)(nb:Nat)(hm:c.okM nb)(kS:Bool)(xS:List (List AV))(kT:Bool)(xT:List (List AV)):iK C0.P C0.G 56 [.ptr 0 0] (heapF [(0,.box (mcX c (.sl 17 (c.rob.map enL) false) (.sl 2 (c.fetched.map ftL) true) (.sl 2 xS kS) (.sl 9 xT kT)))]) 1 (λ x h'=>x=.tup []∧h'=heapF [(0,.box (mcX (eA c) (.sl 17 ((eA c).rob.map enL) false) (.sl 2 ((eA c).fetched.map ftL) true) (.sl 2 xS kS) (.sl 9 xT kT)))]):=by
 refine HCall.intro (C:=C1) (s:=1) c1Ok.at Tryz.func56 rfl rfl (by kernel_rfl) rfl rfl ?_;obtain⟨W,hW,hW2⟩:∃ W:Nat,c.conf.width=(W:Int)∧W≤2:=⟨c.conf.width.toNat,by have:=gU hm.cf;omega,by have:=gU hm.cf;omega⟩;refine aA<|aA<|aB rfl<|oR 5 rfl<|rV (vB (c.halt != 0)) rfl<|rE 7 ?_;refine aE rfl (λ h1=>?_) (λ h1=>?_)
 ·have h1p:=nY h1;refine bC ?_;have e:eA c=c:=if_pos h1p;rw[e];exact gY (rs:=[]) rfl (σ:=λ z=>z) ⟨rfl,rfl⟩ rfl (aV (λ z=>z) rfl rfl wH rfl)
 ·have h1p:=nZ h1;refine aF<|aA<|aB rfl<|oR 7 rfl<|rE 14<|aK<|jH (κ:=Nat×Co×Bool) (λ z_=>match z_ with|(k,d,false)=>⟨aY [(0,.ptr 0 0),(7,vB (c.halt != 0)),(13,vI c.conf.width),(14,vN k)],heapF [(0,.box (mcX d (.sl 17 (d.rob.map enL) false) (.sl 2 (d.fetched.map ftL) true) (.sl 2 xS kS) (.sl 9 xT kT)))],14⟩|(k,d,true)=>⟨aY [(0,.ptr 0 0),(7,vB (c.halt != 0)),(13,vI c.conf.width),(14,vN k)],heapF [(0,.box (mcX d (.sl 17 (d.rob.map enL) false) (.sl 2 (d.fetched.map ftL) true) (.sl 2 xS kS) (.sl 9 xT kT)))],14⟩) (λ z_=>match z_ with|(k,d,_)=>k≤W∧d.okM nb∧eC (W - k) d=eC W c) (λ z_=>W - z_.1) (0,c,false) (λ s=>s) (Weak.of_lists (λ s=>s) wT wH rfl) rfl (⟨SV _,hm,rfl⟩) ?_;intro z_ hk;obtain⟨k,d,b_⟩:=z_;cases b_
  ·have hkn:k≤W:=hk.1;have hkB:k≤2:=by omega
   have hd:d.okM nb:=hk.2.1;have hG:eC (W - k) d=eC W c:=hk.2.2;refine aA<|aB rfl<|rV (vB (decide ((k:Int)<c.conf.width))) rfl<|rE 15<|aA ?_;refine aE rfl (λ h2=>?_) (λ h2=>?_)
   ·have h2p:=of_decide_eq_true h2;refine aF<|aA<|aK<|aA<|aA<|aB rfl<|oR 5 rfl<|rW (vN d.rob.length) rfl (aN enL d.rob)<|oR 6 rfl<|rV (vB (decide (((d.rob.length:Nat):Int)≥d.conf.rob))) rfl<|oR 1 rfl<|gN rfl<|gS rfl id<|gS rfl id<|gS rfl id<|gS rfl id ?_;refine gBS (x:=vN d.fetched.length) rfl id (aN ftL d.fetched)<|gBS (x:=vB (d.fetched.length==0)) rfl id (okB (eqN _ _))<|aG rfl rfl rfl (by simp)<|rE 37 ?_;refine aE rfl (λ h3=>?_) (λ h3=>?_)
    ·have hst:((d.rob.length:Int)≥d.conf.rob∨d.fetched.length=0):=by have z:=h3;simpa [c2o]using z
     refine bC ?_;have e0:eA c=eC W c:=by show (if c.halt≠0 then c else eC c.conf.width.toNat c)=_;rw[if_neg (λ q=>q h1p),hW];rfl
     have e:eA c=d:=by rw[e0, ←hG];exact nJ hst
     rw[e];exact gY (rs:=[]) rfl (σ:=λ z=>z) ⟨rfl,rfl⟩ rfl (aV (λ z=>z) rfl rfl wH rfl)
    ·have hst: ¬ ((d.rob.length:Int)≥d.conf.rob∨d.fetched.length=0):=by have z:=h3;simpa [c2o]using z
     have hrl:d.rob.length≤7:=by have:=gU hd.cf;omega
     have hfl:0<d.fetched.length:=by omega
     refine aF<|aA<|aB rfl<|oR 16 rfl ?_;obtain⟨f,hf⟩:∃ y_,d.fetched[0]?=some y_:=⟨_,SS omT⟩;have hfo:=hd.ok.feto f (ST hf);refine dS (ftL f) (x:=.dp 2 0 (ftL f)) rfl rfl rfl (⟨by decide,cX hf⟩) rfl<|oR 6 rfl<|rCi rfl (Ni d.rob false d.next f d.prog hd.rob hd.ok.robo hfo hd.ok.progo (by have:=hd.prog;omega))<|oR 3 rfl<|rSx 0 (mcX d (.sl 17 ((d.rob++[iH d.next f d.prog]).map enL) false) (.sl 2 (d.fetched.map ftL) true) (.sl 2 xS kS) (.sl 9 xT kT)) rfl rfl rfl<|rE 65<|aA<|aB rfl<|oR 5 rfl<|rW (vI (wrap64 (d.next+1))) rfl (okI (w64 _))<|oR 3 rfl<|rSx 0 (mcX ({d with next:=wrap64 (d.next+1)}:Co) (.sl 17 ((d.rob++[iH d.next f d.prog]).map enL) false) (.sl 2 (d.fetched.map ftL) true) (.sl 2 xS kS) (.sl 9 xT kT)) rfl rfl rfl<|rE 75<|aB rfl<|oR 6 rfl ?_;refine nW (.sl 2 ((d.fetched.drop 1).map ftL) true) rfl (oO (DL ftL d.fetched 1)) slT ?_;refine oR 3 rfl<|rSx 0 (mcX ({d with next:=wrap64 (d.next+1)}:Co) (.sl 17 ((d.rob++[iH d.next f d.prog]).map enL) false) (.sl 2 ((d.fetched.drop 1).map ftL) true) (.sl 2 xS kS) (.sl 9 xT kT)) rfl rfl rfl<|rE 86<|aB rfl ?_;have b1:k+1≤3:=SY hkB (SU 1);refine rW (vN (k+1)) rfl (okI (aQ b1 rfl))<|oR 1 rfl<|rE 88 ?_;refine .mk _ (.refl _) ⟨(k+1,AR d f,false),λ i=>i,Weak.of_lists _ wT wH rfl,rfl,⟨by omega,vG hd hfo omT,(sB omT (λ q=>hst (.inl q)) hf).trans hG⟩,by show W - (k+1)<W - k;omega⟩
   ·have h2p:=SW h2;refine bU ?_;have e0:eA c=eC W c:=by show (if c.halt≠0 then c else eC c.conf.width.toNat c)=_;rw[if_neg (λ q=>q h1p),hW];rfl
    have e:eA c=d:=by rw[e0, ←hG];rw[show W - k=0 by omega];rfl
    rw[e];exact gY (rs:=[]) rfl (σ:=λ z=>z) ⟨rfl,rfl⟩ rfl (aV (λ z=>z) rfl rfl wH rfl)
  ·have hkn:k≤W:=hk.1;have hkB:k≤2:=by omega
   have hd:d.okM nb:=hk.2.1;have hG:eC (W - k) d=eC W c:=hk.2.2;refine aA<|aB rfl<|rV (vB (decide ((k:Int)<c.conf.width))) rfl<|rE 15<|aA ?_;refine aE rfl (λ h4=>?_) (λ h4=>?_)
   ·have h4p:=of_decide_eq_true h4;refine aF<|aA<|aK<|aA<|aA<|aB rfl<|oR 5 rfl<|rW (vN d.rob.length) rfl (aN enL d.rob)<|oR 6 rfl<|rV (vB (decide (((d.rob.length:Nat):Int)≥d.conf.rob))) rfl<|oR 1 rfl<|gN rfl<|gS rfl id<|gS rfl id<|gS rfl id<|gS rfl id ?_;refine gBS (x:=vN d.fetched.length) rfl id (aN ftL d.fetched)<|gBS (x:=vB (d.fetched.length==0)) rfl id (okB (eqN _ _))<|aG rfl rfl rfl (by simp)<|rE 37 ?_;refine aE rfl (λ h5=>?_) (λ h5=>?_)
    ·have hst:((d.rob.length:Int)≥d.conf.rob∨d.fetched.length=0):=by have z:=h5;simpa [c2o]using z
     refine bC ?_;have e0:eA c=eC W c:=by show (if c.halt≠0 then c else eC c.conf.width.toNat c)=_;rw[if_neg (λ q=>q h1p),hW];rfl
     have e:eA c=d:=by rw[e0, ←hG];exact nJ hst
     rw[e];exact gY (rs:=[]) rfl (σ:=λ z=>z) ⟨rfl,rfl⟩ rfl (aV (λ z=>z) rfl rfl wH rfl)
    ·have hst: ¬ ((d.rob.length:Int)≥d.conf.rob∨d.fetched.length=0):=by have z:=h5;simpa [c2o]using z
     have hrl:d.rob.length≤7:=by have:=gU hd.cf;omega
     have hfl:0<d.fetched.length:=by omega
     refine aF<|aA<|aB rfl<|oR 16 rfl ?_;obtain⟨f,hf⟩:∃ y_,d.fetched[0]?=some y_:=⟨_,SS omT⟩;have hfo:=hd.ok.feto f (ST hf);refine dS (ftL f) (x:=.dp 2 0 (ftL f)) rfl rfl rfl (⟨by decide,cX hf⟩) rfl<|oR 6 rfl<|rCi rfl (Ni d.rob false d.next f d.prog hd.rob hd.ok.robo hfo hd.ok.progo (by have:=hd.prog;omega))<|oR 3 rfl<|rSx 0 (mcX d (.sl 17 ((d.rob++[iH d.next f d.prog]).map enL) false) (.sl 2 (d.fetched.map ftL) true) (.sl 2 xS kS) (.sl 9 xT kT)) rfl rfl rfl<|rE 65<|aA<|aB rfl<|oR 5 rfl<|rW (vI (wrap64 (d.next+1))) rfl (okI (w64 _))<|oR 3 rfl<|rSx 0 (mcX ({d with next:=wrap64 (d.next+1)}:Co) (.sl 17 ((d.rob++[iH d.next f d.prog]).map enL) false) (.sl 2 (d.fetched.map ftL) true) (.sl 2 xS kS) (.sl 9 xT kT)) rfl rfl rfl<|rE 75<|aB rfl<|oR 6 rfl ?_;refine nW (.sl 2 ((d.fetched.drop 1).map ftL) true) rfl (oO (DL ftL d.fetched 1)) slT ?_;refine oR 3 rfl<|rSx 0 (mcX ({d with next:=wrap64 (d.next+1)}:Co) (.sl 17 ((d.rob++[iH d.next f d.prog]).map enL) false) (.sl 2 ((d.fetched.drop 1).map ftL) true) (.sl 2 xS kS) (.sl 9 xT kT)) rfl rfl rfl<|rE 86<|aB rfl ?_;have b2:k+1≤3:=SY hkB (SU 1);refine rW (vN (k+1)) rfl (okI (aQ b2 rfl))<|oR 1 rfl<|rE 88 ?_;refine .mk _ (.refl _) ⟨(k+1,AR d f,false),λ i=>i,Weak.of_lists _ wT wH rfl,rfl,⟨by omega,vG hd hfo omT,(sB omT (λ q=>hst (.inl q)) hf).trans hG⟩,by show W - (k+1)<W - k;omega⟩
   ·have h4p:=SW h4;refine bU ?_;have e0:eA c=eC W c:=by show (if c.halt≠0 then c else eC c.conf.width.toNat c)=_;rw[if_neg (λ q=>q h1p),hW];rfl
    have e:eA c=d:=by rw[e0, ←hG];rw[show W - k=0 by omega];rfl
    rw[e];exact gY (rs:=[]) rfl (σ:=λ z=>z) ⟨rfl,rfl⟩ rfl (aV (λ z=>z) rfl rfl wH rfl)
theorem pJ(c:Co)(i:Nat)(e:Ent):(CN c i e).rob.length=c.rob.length:=TB ..
theorem Ng{e:Ent}(h:e.ok):({e with is:=2}:Ent).ok:=⟨h.pc,h.imm,h.guess,h.value,h.next,h.addr⟩
theorem Oh{c:Co}{n i:Nat}{e:Ent}(h:c.okM n)(he:c.rob[i]?=some e):e.ok:=h.ok.robo e (ST he)
theorem Hk{c:Co}{n:Nat}(h:c.okM n)(hb:n+1≤890000)(i:Nat):(fP c i).okM (n+1)∧(fP c i).rob.length=c.rob.length∧(fP c i).halt=c.halt∧(fP c i).stores=c.stores∧(fP c i).fetched=c.fetched∧(fP c i).retired=c.retired:=by
 have h1:c.okM (n+1):=h.mono (Us _) hb;unfold fP
 cases hx:c.rob[i]? with
 |none=>exact⟨h1,rfl,rfl,rfl,rfl,rfl⟩
 |some e=>
  have he:=Oh h hx;dsimp only
  repeat' split
  ·exact⟨h1,rfl,rfl,rfl,rfl,rfl⟩
  ·exact⟨nM h1 i (Cc he _),pJ ..,rfl,rfl,rfl,rfl⟩
  ·exact⟨h1,rfl,rfl,rfl,rfl,rfl⟩
  ·exact⟨nM h1 i (Cc he _),pJ ..,rfl,rfl,rfl,rfl⟩
  ·exact⟨nM h1 i (Ng he),pJ ..,rfl,rfl,rfl,rfl⟩
  ·exact⟨nM (jN h hb 1 (bI he.addr) fH) i (Ng he),pJ ..,rfl,rfl,rfl,rfl⟩
  ·exact⟨h1,rfl,rfl,rfl,rfl,rfl⟩
theorem pK{c:Co}{n:Nat}(h:c.okM n)(hb:n+1≤890000)(i:Nat):(dB c i).okM (n+1)∧(dB c i).rob.length=c.rob.length∧(dB c i).halt=c.halt∧(dB c i).stores=c.stores∧(dB c i).fetched=c.fetched∧(dB c i).retired=c.retired:=by
 have h1:c.okM (n+1):=h.mono (Us _) hb;unfold dB
 cases hx:c.rob[i]? with
 |none=>exact⟨h1,rfl,rfl,rfl,rfl,rfl⟩
 | some e=>
  have he:=Oh h hx;have hB:=uE h.ok.robo h.ok.r i;dsimp only;split
  ·exact⟨nM h1 i (Cb he _ _),pJ ..,rfl,rfl,rfl,rfl⟩
  ·split
   ·have hl:=Hk (nM h i (Cb he c.mem.size (eR c.rob c.r i).1)) hb i;exact⟨hl.1,hl.2.1.trans (pJ ..),hl.2.2.1,hl.2.2.2.1,hl.2.2.2.2.1,hl.2.2.2.2.2⟩
   ·exact⟨nM h1 i (Jt he hB.1 hB.2),pJ ..,rfl,rfl,rfl,rfl⟩
theorem Jh{width:Int}{busy:Bool}{kinds:List Int}{can:List Bool}:∀ k,∀ i∈(dW width busy kinds can k).out,i<k
 |0,i,h=>by simp[dW]at h
 | k+1,i,h=>by
  have ih:=Jh (width:=width) (busy:=busy) (kinds:=kinds) (can:=can) k;unfold dW CB at h
  repeat' split at h
  all_goals first
   |exact VD (ih i h)
   |(simp only[al_List_mem_append,Ww]at h;exact h.elim (λ h=>VD (ih i h)) (λ h=>by omega))
theorem Nh{width:Int}{busy:Bool}{kinds:List Int}{can:List Bool}(hw:0≤width):∀ k,((dW width busy kinds can k).out.length:Int)≤width
 |0=>by simpa [dW]using hw
 | k+1=>by
  have ih:=Nh (width:=width) (busy:=busy) (kinds:=kinds) (can:=can) hw k;unfold dW CB
  repeat' split
  all_goals first
   |exact ih
   |(simp only[To,Vb];push_cast;omega)
theorem FQ{α:Type}{f:α→Bool}{l:List α}{k:Nat}{x:α}(h:l[k]?=some x):(l.take (k+1)).any f=((l.take k).any f||f x):=by
 rw[TD,h,List.any_append];simp
def iY(c:Co)(k:Nat):List Int:=(c.rob.take k).map (λ e=>(kindOf e.i.op:Int))++List.replicate (c.rob.length - k) 0
def nX(c:Co)(k:Nat):List Bool:=(List.range k).map (wU c)++List.replicate (c.rob.length - k) false
theorem AO{c:Co}{k:Nat}(h:k≤c.rob.length):(iY c k).length=c.rob.length:=by unfold iY;simp;omega
theorem yQ{c:Co}{k:Nat}(h:k≤c.rob.length):(nX c k).length=c.rob.length:=by unfold nX;simp;omega
theorem FR{α:Type}{a:List α}{z x:α}{n k:Nat}(ha:a.length=k)(hn:0<n):(a++List.replicate n z).set k x=(a++[x])++List.replicate (n - 1) z:=by
 subst ha;obtain⟨m,rfl⟩:∃ m,n=m+1:=⟨n - 1,by omega⟩;rw[Va _ _ (SU _),UI,List.replicate_succ,UY];simp
theorem AP{c:Co}{k:Nat}{x:Ent}(hx:c.rob[k]?=some x):(iY c k).set k (kindOf x.i.op:Int)=iY c (k+1):=by
 have hk:=(WB.1 hx).1;unfold iY;rw[FR (by simp;omega) omT,TD,hx,Nat.sub_sub];simp
theorem DB{c:Co}{k:Nat}(hk:k<c.rob.length):(nX c k).set k (wU c k)=nX c (k+1):=by
 unfold nX;rw[FR (by simp) omT,Vx,Nat.sub_sub];simp
theorem Hl(c:Co):iY c c.rob.length=zG c:=by unfold iY zG;simp
theorem Ji(c:Co):nX c c.rob.length=DO c:=by unfold nX DO;simp
theorem ET{c:Co}{n:Nat}(h:c.rob.length=n):List.replicate n (0:Int)=iY c 0:=by subst h;rfl
theorem Hm{c:Co}{n:Nat}(h:c.rob.length=n):List.replicate n false=nX c 0:=by subst h;rfl
theorem AQ{α β:Type}{f:β→α→β}{l:List α}{j:Nat}{x:α}{d:β}(h:l[j]?=some x):(l.drop (j+1)).foldl f (f d x)=(l.drop j).foldl f d:=by
 obtain⟨hj,rfl⟩:=WB.1 h;rw[Uf hj];rfl
theorem rC{c:Co}{k:Nat}(hm:mO c.conf=true)(hh: ¬ c.halt≠0)(hk:k=c.rob.length):∃ p,pickOf c.conf.width ((c.rob.take k).any Cr) (iY c k) (nX c k)=p∧cL c=p.foldl dB c∧(∀ i∈p,i<c.rob.length)∧p.length≤2:=by
 subst hk;have hw:=gU hm;refine⟨_,rfl,?_,λ i hi=>?_,?_⟩
 ·rw[Hl,Ji,TW];exact if_neg hh
 ·have:=Jh _ i hi
  rwa [yQ (SU _)]at this
 ·have:=Nh (width:=c.conf.width) (busy:=(c.rob.take c.rob.length).any Cr) (kinds:=iY c c.rob.length) (can:=nX c c.rob.length) omT (nX c c.rob.length).length;unfold pickOf;omega
theorem Jg(c:Co)(nb:Nat)(hm:c.okM nb)(hb:nb+3≤890000)(A B:List Ent)(lo n:Nat)(kR kF kS kT:Bool)(xF xT:List (List AV))(hlo:A.length=lo)(hn:c.rob.length=n)(hA:A.length+n+B.length≤1000):iK C0.P C0.G 55 [.ptr 0 0] (heapF [(0,.box (mcX c (.osl 1 lo n kR) (.sl 2 xF kF) (.sl 2 (c.stores.map ptL) kS) (.sl 9 xT kT))),(1,.arr ((A++c.rob++B).map enL) 17)]) 2 (λ x h'=>x=.tup []∧h'=heapF [(0,.box (mcX (cL c) (.osl 1 lo n kR) (.sl 2 xF kF) (.sl 2 ((cL c).stores.map ptL) kS) (.sl 9 xT kT))),(1,.arr ((A++(cL c).rob++B).map enL) 17)]):=by
 refine HCall.intro (C:=C1) (s:=2) c1Ok.at Tryz.func55 rfl rfl (by kernel_rfl) rfl rfl<|aA<|aA<|aB rfl<|oR 5 rfl<|rV (vB (c.halt != 0)) rfl<|rE 8 ?_;refine aE rfl (λ h1=>?_) (λ h1=>?_)
 ·have h1p:=nY h1;refine bC ?_;have e:cL c=c:=if_pos h1p;rw[e];exact gY (rs:=[]) rfl (σ:=λ z=>z) ⟨rfl,rfl⟩ rfl (aV (λ z=>z) rfl rfl wH rfl)
 ·have h1p:=nZ h1;refine aF<|aA<|aB rfl<|oR 1 rfl<|rE 9<|aA<|aB rfl<|oR 5 rfl<|rV (vN n) rfl<|rFx (x:=.osl 15 0 n false) (h':=upd _ 15 (some (.arr ((List.replicate n 0).map dD) 1))) rfl rfl (JT (UA (f:=dD) (a:=0)).symm) (⟨SZ _,WD.2 omT,by show (n:Int)≤1000000;omega⟩)<|oR 1 rfl<|rE 17<|aA<|aB rfl<|oR 5 rfl<|rV (vN n) rfl ?_;refine rFx (x:=.osl 23 0 n false) (h':=upd _ 23 (some (.arr ((List.replicate n false).map qK) 1))) rfl rfl (JT (UA (f:=qK) (a:=false)).symm) (⟨SZ _,WD.2 omT,by show (n:Int)≤1000000;omega⟩)<|oR 1 rfl<|rE 25<|Af<|aA<|aB rfl<|oR 5 rfl<|rV (vN n) rfl<|oR 1 rfl<|rE 32<|aK<|jH (κ:=Nat) (λ k=>⟨aY [(0,.ptr 0 0),(14,vB (c.halt != 0)),(3,.osl 15 0 n false),(4,.osl 23 0 n false),(33,.osl 1 lo n kR),(34,vN n),(2,vB ((c.rob.take k).any Cr)),(35,vN k)],heapF [(0,.box (mcX c (.osl 1 lo n kR) (.sl 2 xF kF) (.sl 2 (c.stores.map ptL) kS) (.sl 9 xT kT))),(1,.arr ((A++c.rob++B).map enL) 17),(15,.arr ((iY c k).map dD) 1),(23,.arr ((nX c k).map qK) 1)],32⟩) (λ k=>k≤n) (λ k=>n - k) 0 (λ s=>s) (Weak.of_lists (λ s=>s) wT ⟨⟨rfl,rfl,rfl⟩,⟨rfl,rfl,rfl⟩,⟨rfl,(congrArg (λ z:List Int=>some (Blk.arr (z.map dD) 1)) (ET hn)),rfl⟩,⟨rfl,(congrArg (λ z:List Bool=>some (Blk.arr (z.map qK) 1)) (Hm hn)),rfl⟩,trivial⟩ rfl) rfl (SV _) ?_;intro k hk;have hkn:k≤n:=hk;have hkB:k≤1000:=by have:=hm.rob;omega
  have hkl1:(iY c k).length=n:=(AO omT).trans hn;have hkl2:(nX c k).length=n:=(yQ omT).trans hn;refine aA<|aB rfl<|rW (vB (decide (k<n))) rfl (okB (ltN _ _))<|rE 33<|aA ?_;refine aE rfl (λ h2=>?_) (λ h2=>?_)
  ·have h2p:=of_decide_eq_true h2;refine aF<|aA<|aK<|aA<|aB rfl<|oR 1 rfl<|nW (.ptr2 1 (lo+k) 0) rfl rfl ixT ?_;obtain⟨x,hx⟩:∃ y_,c.rob[k]?=some y_:=⟨_,SS omT⟩;have hxo:=hm.ok.robo x (ST hx);refine rIx (enL x) (.agg (enL x)) rfl rfl (cX (dQ hlo hx)) rfl<|rAl 36 rfl rfl<|oR 1 rfl<|rSt rfl<|rE 39<|aA<|aB rfl<|oR 4 rfl<|rCi rfl (iV x.i)<|nW (.ptr2 15 (0+k) 0) rfl rfl ixT ?_;obtain⟨x1,hx1⟩:∃ y_,(iY c k)[k]?=some y_:=⟨_,SS omT⟩;have hx2:((iY c k).set k (kindOf x.i.op:Int))[k]?=some (kindOf x.i.op:Int):=Tl omT;refine gI (dD x1) (h':=upd _ 15 (some (.arr (((iY c k).set k (kindOf x.i.op:Int)).map dD) 1))) rfl rfl rfl (⟨SZ _,CM (cX hx1)⟩) (mL (f:=dD) (l:=iY c k) (k:=k) (x:=(kindOf x.i.op:Int)))<|rE 46<|aA<|aB rfl<|oR 4 rfl<|bP (args:=[.ptr 0 0,vN k]) (d:=50) _ rfl rfl rfl (iK.of_dcall (C:=C0) (show aT C0 109 [.dp 64 0 (mcX c (.sl 17 (List.take n (List.drop lo ((A++c.rob++B).map enL))) kR) (.sl 2 xF kF) (.sl 2 (c.stores.map ptL) kS) (.sl 9 xT kT)),vN k] _ from by rw[kN (l:=c.rob) hlo (by first|exact hn|(rw[TB];exact hn)|(simp only[TB];exact hn))];exact Qj c nb hm (.sl 2 xF kF) (.sl 2 (c.stores.map ptL) kS) (.sl 9 xT kT) kR k omT) (by rfl) (by exact⟨⟨rfl,(r4 (r4 (r4 (r4 (r4 (r4 (r4 (r4 (r4 (r4 (r4 (r4 ⟨(by show lo+n≤((A++c.rob++B).map enL).length;simp only[Td,To,TB];omega),tvT⟩))))))))))))⟩,trivial,trivial⟩) (by rfl)) ?_;rintro _ _ ⟨rfl,rfl⟩;refine nW (.ptr2 23 (0+k) 0) rfl rfl ixT ?_;obtain⟨x3,hx3⟩:∃ y_,(nX c k)[k]?=some y_:=⟨_,SS omT⟩;have hx4:((nX c k).set k (wU c k))[k]?=some (wU c k):=Tl omT;refine gI (qK x3) (h':=upd _ 23 (some (.arr (((nX c k).set k (wU c k)).map qK) 1))) rfl rfl rfl (⟨SZ _,CM (cX hx3)⟩) (mL (f:=qK) (l:=nX c k) (k:=k) (x:=wU c k))<|rE 53<|aA<|aB rfl<|oR 2 rfl<|nW (.ptr2 15 (0+k) 0) rfl rfl ixT<|rIx (dD (kindOf x.i.op:Int)) (vN (kindOf x.i.op)) rfl rfl (CM (cX hx2)) rfl<|rW (vB ((kindOf x.i.op)==2)) rfl (okB (eqN _ _))<|oR 1 rfl<|gN rfl<|gS rfl id<|gBS (x:=vB (x.is==1)) rfl id rfl<|aG rfl rfl rfl (λ h=>h)<|rE 63 ?_;refine aE rfl (λ h3=>?_) (λ h3=>?_)
   ·refine aB rfl<|oR 1 rfl<|rE 64<|aB rfl ?_;have b1:k+1≤1001:=SY hkB (SU 1);refine rW (vN (k+1)) rfl (okI (aQ b1 rfl))<|oR 1 rfl<|rE 66 ?_;refine .mk _ (.refl _) ⟨k+1,λ s=>s,Weak.of_lists _ ⟨⟨rfl,rfl⟩,⟨rfl,rfl⟩,⟨rfl,rfl⟩,⟨rfl,rfl⟩,⟨rfl,rfl⟩,⟨rfl,rfl⟩,⟨(bE (by rw[FQ hx];have z:=h3;simp_all[c2a,Cr])),rfl⟩,⟨rfl,rfl⟩,trivial⟩ ⟨⟨rfl,rfl,rfl⟩,⟨rfl,rfl,rfl⟩,⟨rfl,(congrArg (λ z:List Int=>some (Blk.arr (z.map dD) 1)) (AP hx)),rfl⟩,⟨rfl,(congrArg (λ z:List Bool=>some (Blk.arr (z.map qK) 1)) (DB omT)),rfl⟩,trivial⟩ rfl,rfl,by omega,by show n - (k+1)<n - k;omega⟩
   ·refine aF<|aB rfl ?_;have b2:k+1≤1001:=SY hkB (SU 1);refine rW (vN (k+1)) rfl (okI (aQ b2 rfl))<|oR 1 rfl<|rE 65 ?_;refine .mk _ (.refl _) ⟨k+1,λ s=>s,Weak.of_lists _ ⟨⟨rfl,rfl⟩,⟨rfl,rfl⟩,⟨rfl,rfl⟩,⟨rfl,rfl⟩,⟨rfl,rfl⟩,⟨rfl,rfl⟩,⟨(bE (by rw[FQ hx];have z:=h3;simp_all[c2a,Cr])),rfl⟩,⟨rfl,rfl⟩,trivial⟩ ⟨⟨rfl,rfl,rfl⟩,⟨rfl,rfl,rfl⟩,⟨rfl,(congrArg (λ z:List Int=>some (Blk.arr (z.map dD) 1)) (AP hx)),rfl⟩,⟨rfl,(congrArg (λ z:List Bool=>some (Blk.arr (z.map qK) 1)) (DB omT)),rfl⟩,trivial⟩ rfl,rfl,by omega,by show n - (k+1)<n - k;omega⟩
  ·have h2p:=SW h2;obtain⟨p,hp,hP,hpl,hp2⟩:=rC (k:=k) hm.cf (λ q=>q h1p) omT;refine bU<| .mk _ (.step (some (15,1,(iY c k).map dD)) (Ghost.of_lists (l:=[(0,.ptr 0 0),(14,vB (c.halt != 0)),(3,.sl 1 ((iY c k).map dD) false),(4,.osl 23 0 n false),(2,vB ((c.rob.take k).any Cr)),(36,vB (decide (k<n)))]) (hp:=[(0,.box (mcX c (.osl 1 lo n kR) (.sl 2 xF kF) (.sl 2 (c.stores.map ptL) kS) (.sl 9 xT kT))),(1,.arr ((A++c.rob++B).map enL) 17),(23,.arr ((nX c k).map qK) 1)]) rfl rfT rbT) (.step (some (23,1,(nX c k).map qK)) (Ghost.of_lists (l:=[(0,.ptr 0 0),(14,vB (c.halt != 0)),(3,.sl 1 ((iY c k).map dD) false),(4,.sl 1 ((nX c k).map qK) false),(2,vB ((c.rob.take k).any Cr)),(36,vB (decide (k<n)))]) (hp:=[(0,.box (mcX c (.osl 1 lo n kR) (.sl 2 xF kF) (.sl 2 (c.stores.map ptL) kS) (.sl 9 xT kT))),(1,.arr ((A++c.rob++B).map enL) 17)]) rfl rfT rbT) (.refl _)))<|aA<|aB rfl<|oR 9 rfl<|rCl (x:=.sl 1 (p.map KH) false) rfl (.inl rfl) ((by rw[←hp];exact QQ c.conf.width ((c.rob.take k).any Cr) (iY c k) (nX c k) false false (by rw[AO omT];exact hm.rob) (by rw[yQ omT];exact hm.rob)))<|rW (vN p.length) rfl (aN KH p)<|oR 1 rfl<|rE 45<|aK<|jH (κ:=Nat×Co×Bool) (λ z_=>match z_ with|(j,d,false)=>⟨aY [(0,.ptr 0 0),(14,vB (c.halt != 0)),(36,vB (decide (k<n))),(72,.sl 1 (p.map KH) false),(73,vN p.length),(74,vN j)],heapF [(0,.box (mcX d (.osl 1 lo n kR) (.sl 2 xF kF) (.sl 2 (d.stores.map ptL) kS) (.sl 9 xT kT))),(1,.arr ((A++d.rob++B).map enL) 17)],45⟩|(j,d,true)=>⟨aY [(0,.ptr 0 0),(14,vB (c.halt != 0)),(36,vB (decide (k<n))),(72,.sl 1 (p.map KH) false),(73,vN p.length),(74,vN j)],heapF [(0,.box (mcX d (.osl 1 lo n kR) (.sl 2 xF kF) (.sl 2 (d.stores.map ptL) kS) (.sl 9 xT kT))),(1,.arr ((A++d.rob++B).map enL) 17)],45⟩) (λ z_=>match z_ with|(j,d,_)=>j≤p.length∧d.okM (nb+j)∧d.rob.length=n∧(p.drop j).foldl dB d=cL c) (λ z_=>p.length - z_.1) (0,c,false) (λ s=>s) (Weak.of_lists (λ s=>s) wT wH rfl) rfl (⟨SV _,hm,hn,hP.symm⟩) ?_;intro z_ hj;obtain⟨j,d,b_⟩:=z_;cases b_
   ·have hjn:j≤p.length:=hj.1;have hjB:j≤2:=by omega
    have hd:d.okM (nb+j):=hj.2.1;have hdn:d.rob.length=n:=hj.2.2.1;have hG:(p.drop j).foldl dB d=cL c:=hj.2.2.2;refine aA<|aB rfl<|rW (vB (decide (j<p.length))) rfl (okB (ltN _ _))<|rE 46<|aA ?_;refine aE rfl (λ h4=>?_) (λ h4=>?_)
    ·have h4p:=of_decide_eq_true h4;refine aF<|aA<|aK<|aA<|aB rfl ?_;obtain⟨x,hx⟩:∃ y_,p[j]?=some y_:=⟨_,SS omT⟩;have hxo:=hpl x (ST hx);have hs:=pK hd omT x;refine rIx (KH x) (.dp 1 0 (KH x)) rfl rfl (cX hx) rfl<|oR 2 rfl<|rE 49<|aB rfl<|oR 2 rfl<|bP (args:=[.ptr 0 0,vN x]) (d:=80) _ rfl rfl rfl ((Nj d (nb+j) hd x (by have:=hxo;omega) A B lo n kR kF kS kT xF xT hlo hdn hA).frameB2 (λ z=>z) _ _ rfl ⟨⟨rfl,rfl,rfl,rfl⟩,⟨rfl,rfl,rfl,rfl⟩,trivial⟩ rfl rfl rfl rfl rfl) ?_;rintro _ _ ⟨rfl,rfl⟩;refine rE 52<|aB rfl ?_;have b3:j+1≤3:=SY hjB (SU 1);refine rW (vN (j+1)) rfl (okI (aQ b3 rfl))<|oR 1 rfl<|rE 54 ?_;refine .mk _ (.refl _) ⟨(j+1,dB d x,false),λ i=>i,Weak.of_lists _ wT ⟨⟨rfl,(congrArg (λ z:List Pt=>some (Blk.box (mcX (dB d x) (.osl 1 lo n kR) (.sl 2 xF kF) (.sl 2 (z.map ptL) kS) (.sl 9 xT kT)))) hs.2.2.2.1.symm),rfl⟩,⟨rfl,rfl,rfl⟩,trivial⟩ rfl,rfl,⟨by omega,hs.1,hs.2.1.trans hdn,(AQ hx).trans hG⟩,by show p.length - (j+1)<p.length - j;omega⟩
    ·have h4p:=SW h4;refine bU ?_;have e:cL c=d:=by rw[←hG,Ug omT];rfl
     rw[e];exact gY (rs:=[]) rfl (σ:=λ z=>z) ⟨rfl,rfl⟩ rfl (aV (λ z=>z) rfl rfl wH rfl)
   ·have hjn:j≤p.length:=hj.1;have hjB:j≤2:=by omega
    have hd:d.okM (nb+j):=hj.2.1;have hdn:d.rob.length=n:=hj.2.2.1;have hG:(p.drop j).foldl dB d=cL c:=hj.2.2.2;refine aA<|aB rfl<|rW (vB (decide (j<p.length))) rfl (okB (ltN _ _))<|rE 46<|aA ?_;refine aE rfl (λ h5=>?_) (λ h5=>?_)
    ·have h5p:=of_decide_eq_true h5;refine aF<|aA<|aK<|aA<|aB rfl ?_;obtain⟨x,hx⟩:∃ y_,p[j]?=some y_:=⟨_,SS omT⟩;have hxo:=hpl x (ST hx);have hs:=pK hd omT x;refine rIx (KH x) (.dp 1 0 (KH x)) rfl rfl (cX hx) rfl<|oR 2 rfl<|rE 49<|aB rfl<|oR 2 rfl<|bP (args:=[.ptr 0 0,vN x]) (d:=80) _ rfl rfl rfl ((Nj d (nb+j) hd x (by have:=hxo;omega) A B lo n kR kF kS kT xF xT hlo hdn hA).frameB2 (λ z=>z) _ _ rfl ⟨⟨rfl,rfl,rfl,rfl⟩,⟨rfl,rfl,rfl,rfl⟩,trivial⟩ rfl rfl rfl rfl rfl) ?_;rintro _ _ ⟨rfl,rfl⟩;refine rE 52<|aB rfl ?_;have b4:j+1≤3:=SY hjB (SU 1);refine rW (vN (j+1)) rfl (okI (aQ b4 rfl))<|oR 1 rfl<|rE 54 ?_;refine .mk _ (.refl _) ⟨(j+1,dB d x,false),λ i=>i,Weak.of_lists _ wT ⟨⟨rfl,(congrArg (λ z:List Pt=>some (Blk.box (mcX (dB d x) (.osl 1 lo n kR) (.sl 2 xF kF) (.sl 2 (z.map ptL) kS) (.sl 9 xT kT)))) hs.2.2.2.1.symm),rfl⟩,⟨rfl,rfl,rfl⟩,trivial⟩ rfl,rfl,⟨by omega,hs.1,hs.2.1.trans hdn,(AQ hx).trans hG⟩,by show p.length - (j+1)<p.length - j;omega⟩
    ·have h5p:=SW h5;refine bU ?_;have e:cL c=d:=by rw[←hG,Ug omT];rfl
     rw[e];exact gY (rs:=[]) rfl (σ:=λ z=>z) ⟨rfl,rfl⟩ rfl (aV (λ z=>z) rfl rfl wH rfl)
theorem FP(c:Co)(nb:Nat)(hm:c.okM nb)(h0:c.rob=[])(kF kS kT:Bool)(xF xT:List (List AV)):iK C0.P C0.G 55 [.ptr 0 0] (heapF [(0,.box (mcX c (.sl 17 [] false) (.sl 2 xF kF) (.sl 2 (c.stores.map ptL) kS) (.sl 9 xT kT)))]) 1 (λ x h'=>x=.tup []∧h'=heapF [(0,.box (mcX (cL c) (.sl 17 [] false) (.sl 2 xF kF) (.sl 2 ((cL c).stores.map ptL) kS) (.sl 9 xT kT)))]):=by
 refine HCall.intro (C:=C1) (s:=1) c1Ok.at Tryz.func55 rfl rfl (by kernel_rfl) rfl rfl<|aA<|aA<|aB rfl<|oR 5 rfl<|rV (vB (c.halt != 0)) rfl<|rE 7 ?_;refine aE rfl (λ h1=>?_) (λ h1=>?_)
 ·have h1p:=nY h1;refine bC ?_;have e:cL c=c:=by unfold cL zG DO;rw[h0];split<;>rfl
  rw[e];exact gY (rs:=[]) rfl (σ:=λ z=>z) ⟨rfl,rfl⟩ rfl (aV (λ z=>z) rfl rfl wH rfl)
 ·have h1p:=nZ h1;refine aF<|aA<|aB rfl<|oR 1 rfl<|rE 8<|aA<|aB rfl<|oR 5 rfl<|rW (vN 0) rfl (kH enL ([]:List Ent) omT)<|rFx (x:=.osl 14 0 0 false) (h':=upd _ 14 (some (.arr (([]:List Int).map dD) 1))) rfl rfl (rfl) (⟨by decide,by decide,by show ((0:Nat):Int)≤1000000;omega⟩)<|oR 1 rfl<|rE 16<|aA<|aB rfl<|oR 5 rfl<|rW (vN 0) rfl (kH enL ([]:List Ent) omT) ?_;refine rFx (x:=.osl 22 0 0 false) (h':=upd _ 22 (some (.arr (([]:List Bool).map qK) 1))) rfl rfl (rfl) (⟨by decide,by decide,by show ((0:Nat):Int)≤1000000;omega⟩)<|oR 1 rfl<|rE 24<|Af<|aA<|aB rfl<|oR 5 rfl<|rW (vN 0) rfl (kH enL ([]:List Ent) omT)<|oR 1 rfl<|rE 31<|aK<|jH (κ:=Nat) (λ k=>⟨aY [(0,.ptr 0 0),(14,vB (c.halt != 0)),(3,.osl 14 0 0 false),(4,.osl 22 0 0 false),(33,.sl 17 (([]:List Ent).map enL) false),(34,vN 0),(2,vB false),(35,vN k)],heapF [(0,.box (mcX c (.sl 17 (([]:List Ent).map enL) false) (.sl 2 xF kF) (.sl 2 (c.stores.map ptL) kS) (.sl 9 xT kT))),(14,.arr (([]:List Int).map dD) 1),(22,.arr (([]:List Bool).map qK) 1)],31⟩) (λ k=>k≤0) (λ k=>0 - k) 0 (λ s=>s) (Weak.of_lists (λ s=>s) wT wH rfl) rfl (SV _) ?_;intro k hk;have hkn:k≤0:=hk;have hkB:k≤1000:=by omega
  refine aA<|aB rfl<|rW (vB (decide (k<0))) rfl (okB (ltN _ _))<|rE 32<|aA ?_;refine aE rfl (λ h2=>by exact absurd (of_decide_eq_true h2) (Ud _)) (λ _=>?_);refine bU<| .mk _ (.step (some (14,1,([]:List Int).map dD)) (Ghost.of_lists (l:=[(0,.ptr 0 0),(14,vB (c.halt != 0)),(3,.sl 1 (([]:List Int).map dD) false),(4,.osl 22 0 0 false),(2,vB false),(36,vB (decide (k<0)))]) (hp:=[(0,.box (mcX c (.sl 17 (([]:List Ent).map enL) false) (.sl 2 xF kF) (.sl 2 (c.stores.map ptL) kS) (.sl 9 xT kT))),(22,.arr (([]:List Bool).map qK) 1)]) rfl rfT rbT) (.step (some (22,1,([]:List Bool).map qK)) (Ghost.of_lists (l:=[(0,.ptr 0 0),(14,vB (c.halt != 0)),(3,.sl 1 (([]:List Int).map dD) false),(4,.sl 1 (([]:List Bool).map qK) false),(2,vB false),(36,vB (decide (k<0)))]) (hp:=[(0,.box (mcX c (.sl 17 (([]:List Ent).map enL) false) (.sl 2 xF kF) (.sl 2 (c.stores.map ptL) kS) (.sl 9 xT kT)))]) rfl rfT rbT) (.refl _)))<|aA<|aB rfl<|oR 9 rfl<|rCi rfl (QQ c.conf.width false [] [] false false (by decide) (by decide))<|rW (vN 0) rfl (kH KH ([]:List Nat) omT)<|oR 1 rfl<|rE 44<|aK<|jH (κ:=Nat) (λ j=>⟨aY [(0,.ptr 0 0),(14,vB (c.halt != 0)),(36,vB (decide (k<0))),(72,.sl 1 (([]:List Nat).map KH) false),(73,vN 0),(74,vN j)],heapF [(0,.box (mcX c (.sl 17 (([]:List Ent).map enL) false) (.sl 2 xF kF) (.sl 2 (c.stores.map ptL) kS) (.sl 9 xT kT)))],44⟩) (λ j=>j≤0) (λ j=>0 - j) 0 (λ s=>s) (Weak.of_lists (λ s=>s) wT wH rfl) rfl (SV _) ?_;intro j hj;have hjn:j≤0:=hj;have hjB:j≤1000:=by omega
  refine aA<|aB rfl<|rW (vB (decide (j<0))) rfl (okB (ltN _ _))<|rE 45<|aA ?_;refine aE rfl (λ h3=>by exact absurd (of_decide_eq_true h3) (Ud _)) (λ _=>?_);refine bU ?_;have e:cL c=c:=by unfold cL zG DO;rw[h0];split<;>rfl
  rw[e];exact gY (rs:=[]) rfl (σ:=λ z=>z) ⟨rfl,rfl⟩ rfl (aV (λ z=>z) rfl rfl wH rfl)
def Nf(s:Nat)(c:Co)(F S T:AV)(h':AH):Prop:=
 (c.rob=[]∧h'=heapF [(0,.box (mcX c (.sl 17 [] false) F S T))])∨
 ∃ (b:Nat) (A B:List Ent) (k:Bool),(b=1∧1<s∨b=s)∧A.length+c.rob.length+B.length≤1000∧h'=heapF [(0,.box (mcX c (.osl b A.length c.rob.length k) F S T)),(b,.arr ((A++c.rob++B).map enL) 17)]
theorem qE{c:Co}{R F S S' T T':AV}(hS:S=S')(hT:T=T'):some (Blk.box (mcX c R F S T))=some (Blk.box (mcX c R F S' T')):=by rw[hS,hT]
theorem bB{e:Ent}(h:e.ok):(aC e).ok:=by
 have hz:(0:Nat)≤4294967295:=SV _;have hv:(if wr e.i≠0 then e.value else 0)≤4294967295:=by
  split
  ·exact h.value
  ·exact hz
 have ha:(if e.halt=4∨e.halt=5 then e.addr else 0)≤4294967295:=by
  split
  ·exact h.addr
  ·exact hz
 unfold aC
 repeat' split
 all_goals first
  |exact⟨h.pc,h.pc,hz,ha⟩
  |exact⟨h.pc,qH _,h.value,h.addr⟩
  |exact⟨h.pc,qH _,hv,h.addr⟩
  |exact⟨h.pc,qH _,hv,hz⟩
  |exact⟨h.pc,h.next,hv,hz⟩
  |(refine⟨h.pc,?_,?_,?_⟩<;>first|exact qH _|exact h.next|exact h.pc|exact hz|exact h.value|exact h.addr)
theorem Dy{s:Sp}(h:(cW s).isSome=true):s.store=true∧s.halt=0∧(cW s).getD ⟨0,fH⟩=⟨s.addr,jW s.value s.size.toNat⟩:=by
 unfold cW at h⊢;split at h
 ·cases h
 ·rename_i hq;rw[if_neg hq];refine⟨?_,?_,rfl⟩
  ·cases hs:s.store with
   |true=>rfl
   |false=>exact absurd (.inl hs) hq
  ·exact Classical.byContradiction λ e=>hq (.inr (.inl e))
theorem Hi{s:Sp}(h:s.ok):((cW s).getD ⟨0,fH⟩).ok:=by
 unfold cW;split
 ·exact⟨SV _⟩
 ·exact⟨h.addr⟩
theorem Jf{r:Nat→Nat}{s:Sp}(hr:∀ k,r k≤4294967295)(hs:s.ok)(k:Nat):cP r s k≤4294967295:=by
 unfold cP;split
 ·unfold OK;split
  ·exact hs.value
  ·exact hr k
 ·exact hr k
theorem Hj{g:Gu}{pc next:Nat}{i:SI}(h:g.ok)(hR:jR g=true)(hpc:pc≤4294967295)(hn:next≤4294967295):(bO g pc next i).ok∧jR (bO g pc next i)=true:=by
 obtain⟨h1,h2,h3⟩:=OT.1 hR;have happ:∀ x∈g.rets++[up4 pc],x≤4294967295:=gE (P:=λ x=>x≤4294967295) h.ro (gF (P:=λ x=>x≤4294967295) (qH pc));unfold bO;split
 ·have hs:∀ x∈g.slots.set (cR g pc) ⟨pc,next⟩,x.ok:=pQ (P:=Gs.ok) h.so ⟨hpc,hn⟩;have hh:(2 * g.hist+(if next≠up4 pc then 1 else 0)) % 8<8:=Tp _ (by decide);refine⟨⟨?_,?_,?_,hs,?_⟩,OT.2 ⟨?_,hh,?_⟩⟩
  ·show (g.slots.set _ _).length≤_;rw[TB,h1];decide
  ·dsimp only;repeat' split
   ·rw[Tn,To,Vb];omega
   ·rw[To,Vb];omega
   ·rw[VQ];omega
   ·omega
  ·exact Tb (Nat.le_of_lt hh) (by decide)
  ·dsimp only;repeat' split
   ·exact Cn (P:=λ x=>x≤4294967295) happ
   ·exact happ
   ·intro x hx;exact h.ro x (VR _ hx)
   ·exact h.ro
  ·show (g.slots.set _ _).length=8;rw[TB,h1]
  ·dsimp only;repeat' split
   ·rename_i q1 q2;rw[Tn];rw[To,Vb]at q2⊢;omega
   ·rename_i q1 q2;omega
   ·rw[VQ];omega
   ·exact h3
 ·exact⟨h,hR⟩
theorem cH{c:Co}{s:Sp}(h:(cW s).isSome=true):(aI c s).stores=c.stores++[(cW s).getD ⟨0,fH⟩]:=by
 unfold aI;obtain⟨p,hp⟩:=WE.1 h;rw[hp];rfl
theorem dT{c:Co}{s:Sp}(h:(cW s).isSome=false):(aI c s).stores=c.stores:=by
 unfold aI;have hp:cW s=none:=by simpa using h
 rw[hp]
theorem Dz{s:Sp}:((cW s).getD ⟨0,fH⟩).data.size≤4:=by
 unfold cW;split
 ·exact SV _
 ·show (jW s.value s.size.toNat).size≤4;rw[pW];omega
theorem eZ{c:Co}{n:Nat}{s:Sp}(h:c.okM n)(hb:n+1≤890000)(hs:s.ok)(hst:s.store=true→c.stores.length≤999):(aI c s).okM (n+1):=by
 have hS:(aI c s).stores.length≤1000∧(∀ x∈(aI c s).stores,x.ok)∧∀ x∈(aI c s).stores,x.data.size≤4:=by
  cases hq:(cW s).isSome with
  |true=>
   rw[cH hq];have:=hst (Dy hq).1
   exact⟨by simp;omega,gE h.ok.stoo (gF (P:=Pt.ok) (Hi hs)),λ x hx=>(al_List_mem_append.1 hx).elim (h.std x) λ hx=>Ww.1 hx ▸ Dz⟩
  |false=>rw[dT hq];exact⟨h.sto,h.ok.stoo,h.std⟩
 have hr:(c.retired++[s]).length≤n+1:=by have:=h.ok.ret;simp;omega
 exact⟨⟨h.ok.conf,h.ok.prog,h.ok.progo,h.ok.r,h.ok.fetch,h.ok.fet,h.ok.feto,h.ok.rob,h.ok.robo,Tb hS.1 (by decide),hS.2.1,h.ok.data,h.ok.words,Wj h.ok.bus,h.ok.buso,h.ok.asked,h.ok.guessed,h.ok.mem,h.ok.guess,hr,gE h.ok.reto (gF (P:=Sp.ok) hs)⟩,hb,h.cf,h.data,h.words,h.guess,h.rob,h.fet,hS.1,h.prog,h.mem,hS.2.2⟩
def yP(c:Co)(line:Nat):Co:={c with data:=(bA c line).data,bus:=(bA c line).bus,asked:=(bA c line).asked}
theorem kL(c:Co)(line:Nat):yP c line=bA c line:=by
 unfold yP bA;generalize cZ c.data c.bus c.mem line (eE c.conf c.asked)=t;obtain⟨d,q,a⟩:=t;rfl
def lN(d:Co)(e:Ent):Co:={aI d (aC e)with r:=cP d.r (aC e),guess:=bO d.guess (aC e).pc (aC e).next e.i,rob:=d.rob.drop 1}
def lO(d:Co)(e:Ent):Co:={yP (aI d (aC e)) (aC e).addr with r:=cP d.r (aC e),guess:=bO d.guess (aC e).pc (aC e).next e.i,rob:=d.rob.drop 1}
theorem eJ{d:Co}{n:Nat}(h:d.halt≠0∨d.rob.length=0):bN n d=d:=by
 cases n with
 |zero=>rfl
 | succ n=>
  unfold bN;by_cases h1:d.halt≠0
  ·exact if_pos h1
  ·rw[if_neg h1];have hz:d.rob=[]:=Tm (h.resolve_left h1);rw[hz]
theorem cB{d:Co}{n:Nat}{e:Ent}(hn:0<n)(h: ¬ d.halt≠0)(he:d.rob[0]?=some e):bN n d=if e.is≠3 then d else if (aC e).halt≠0 then dL d (aC e)else if (aC e).store=true∧(d.stores.length:Int)≥d.conf.stores then d else bN (n - 1) (oQ d e (aC e) (d.rob.drop 1)):=by
 cases n with
 |zero=>cases hn
 |succ n=>
  conv=>lhs;unfold bN
  rw[if_neg h]
  cases hz:d.rob with
  |nil=>rw[hz]at he;cases he
  |cons y l=>rw[hz]at he;injection he with he;subst he;rfl
theorem kX{d:Co}{e:Ent}(h: ¬ kindOf e.i.op=3):oQ d e (aC e) (d.rob.drop 1)=lN d e:=by
 unfold oQ vL lN;rw[if_neg h]
theorem kY{d:Co}{e:Ent}(h:kindOf e.i.op=3):oQ d e (aC e) (d.rob.drop 1)=lO d e:=by
 unfold oQ vL lO;rw[if_pos h,kL]
theorem DA{d x:Co}{n:Nat}{e:Ent}(hx:x.okM n)(hd:d.okM n)(he:e.ok)(hr:x.rob=d.rob):Co.okM {x with r:=cP d.r (aC e),guess:=bO d.guess (aC e).pc (aC e).next e.i,rob:=d.rob.drop 1} n:=by
 have hs:=bB he;have hg:=Hj (i:=e.i) hd.ok.guess hd.guess hs.pc hs.next;have hl:(d.rob.drop 1).length≤1000:=by have:=hd.rob;rw[Tn];omega
 exact⟨⟨hx.ok.conf,hx.ok.prog,hx.ok.progo,Jf hd.ok.r hs,hx.ok.fetch,hx.ok.fet,hx.ok.feto,Tb hl (by decide),Cn hd.ok.robo,hx.ok.sto,hx.ok.stoo,hx.ok.data,hx.ok.words,hx.ok.bus,hx.ok.buso,hx.ok.asked,hx.ok.guessed,hx.ok.mem,hg.1,hx.ok.ret,hx.ok.reto⟩,hx.nb,hx.cf,hx.data,hx.words,hg.2,hl,hx.fet,hx.sto,hx.prog,hx.mem,hx.std⟩
theorem kD{d:Co}{n:Nat}{e:Ent}(hd:d.okM n)(hb:n+2≤890000)(he:e.ok)(hst:(aC e).store=true→d.stores.length≤999):(lN d e).okM (n+2):=
 DA ((eZ hd omT (bB he) hst).mono omT hb) (hd.mono omT hb) he rfl
theorem kE{d:Co}{n:Nat}{e:Ent}(hd:d.okM n)(hb:n+2≤890000)(he:e.ok)(hst:(aC e).store=true→d.stores.length≤999):(lO d e).okM (n+2):=by
 have h:=yT (eZ hd omT (bB he) hst) omT (bB he).addr;rw[←kL]at h;exact DA h (hd.mono omT hb) he rfl
end Go.Proofs.YtlhofpglndhfaaaGreatDoor
