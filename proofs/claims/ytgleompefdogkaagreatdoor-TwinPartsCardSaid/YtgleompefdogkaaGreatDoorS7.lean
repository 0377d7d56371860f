/- Joined texts. -/
import Derived.Test.YtgleompefdogkaaGreatDoorS1
import Derived.Test.YtgleompefdogkaaGreatDoorS6
set_option linter.unusedVariables false
set_option linter.unusedSimpArgs false
set_option linter.defProp false
namespace Go.Proofs.YtgleompefdogkaaGreatDoor
open Go.RowKit
def Qk:Prop:=∀(op:Int) (x:Nat) (w:World),1<=op∧op<=48->x<4294967296->Calls Tryz.prog 149 #[.int .i64 op,.int .u32 x] w λe w'=>e=.returned (lQ op x).val∧Below w.heap.size w w'
def Yq:List Nat:=[0,55,23,111,103,99,4195,16483,20579,24675,28771,3,4099,8195,16387,20483,35,4131,8227,19,8211,12307,16403,24595,28691,4115,20499,1073762323,51,1073741875,4147,8243,12339,16435,20531,1073762355,24627,28723,33554483,33558579,33562675,33566771,33570867,33574963,33579059,33583155,15,115,1048691]
def code(k:Nat):Nat:=Yq.getD k 0
def Ih(k:Nat):code k<4294967296:=by
 by_cases h:k<49
 ·have:∀k,k<49->code k<4294967296:=by decide
  exact this k h
 ·unfold code;rw[bL,bO (by show 49<=k;omega)];decide
def Lj(w:World):Prop:=∀k,k<49->w.cell? ⟨0,k,none⟩=some (.int .u32 (code k))
theorem Lj.kept{w w':World}(h:Lj w)(hb:Below w.heap.size w w'):Lj w':=λk hk=>(hb.cell (tL (h k hk))).trans (h k hk)
def NQ(x k:Nat):Bool:=(x&&&xL (cS k))==code k
def opFrom(x:Nat):Nat->Nat->Nat
 |0,_=>0
 |n+1,k=>if NQ x k then k else opFrom x n (k+1)
def EM(x:Nat):Nat:=opFrom x 48 1
def ZL:SI:=⟨0,0,0,0,0⟩
def kJ(x:Nat):SI:=if EM x=0 then ZL else lQ (EM x) x
def decE(x:Nat):Nat:=if EM x=0 then 20 else 0
theorem opFrom_le(x:Nat):∀n k,opFrom x n k=0∨(k<=opFrom x n k∧opFrom x n k<k+n∧NQ x (opFrom x n k)=true∧∀j,k<=j->j<opFrom x n k->NQ x j=false)
 |0,k=>.inl rfl
 | n+1,k=>by
  unfold opFrom;split
  ·exact .inr ⟨by omega,by omega,by assumption,λj h1 h2=>absurd h2 (by omega)⟩
  ·rename_i hm;rcases opFrom_le x n (k+1)with h|⟨h1,h2,h3,h4⟩
   ·exact .inl h
   ·refine .inr ⟨by omega,by omega,h3,λj hj1 hj2=>?_⟩;by_cases e:j=k
    ·subst e;simpa using hm
    ·exact h4 j (by omega) hj2
theorem JE(x:Nat):∀n k j,k<=j->j<k+n->NQ x j=true->(∀i,k<=i->i<j->NQ x i=false)->opFrom x n k=j
 |0,k,j,h1,h2,_,_=>absurd h2 (by omega)
 | n+1,k,j,h1,h2,hj,hn=>by
  unfold opFrom;by_cases e:j=k
  ·subst e;rw[if_pos hj]
  ·rw[if_neg (by rw[hn k (by omega) (by omega)];simp)];exact JE x n (k+1) j (by omega) (by omega) hj (λi hi=>hn i (by omega))
theorem JF(x:Nat):∀n k,(∀j,k<=j->j<k+n->NQ x j=false)->opFrom x n k=0
 |0,_,_=>rfl
 |n+1,k,h=>by
  unfold opFrom;rw[if_neg (by rw[h k (by omega) (by omega)];simp)];exact JF x n (k+1) (λj h1 h2=>h j (by omega) (by omega))
def NR(f:Nat):xL f<4294967296:=by
 unfold xL;split<;>omega
set_option maxRecDepth 100000 in
set_option maxHeartbeats 4000000 in
theorem NS(hRD:Qk)(x:Nat)(w:World)(hC:Lj w)(hx:x<4294967296):Calls Tryz.prog 116 #[.int .u32 x] w λe w'=>e=.returned (.tuple #[(kJ x).val,.int .i64 (decE x)])∧Below w.heap.size w w':=by
 go_enter Tryz.func116,Tryz.ntmps116
 go_wp2_with fail
 go_loopw [4] (λi wr=>∃k:Nat,i=.int .i64 k∧1<=k∧k<=49∧(∀j,1<=j->j<k->NQ x j=false)∧∃m,wr=(w.alloc (.cells #[.int .i64 0,.int .i64 0,.int .i64 0,.int .i64 0,.int .u32 0] 93)).drewN m) (λi _=>49-(intOf i).toNat)
 case atStart=>exact⟨1,rfl,aC _,by omega,λj h1 h2=>absurd h2 (by omega),0,rfl⟩
 case round=>
  obtain⟨k,rfl,hk,hk2,hno,m,hwr⟩:=hrel;have HW:=Lib.hid hwr;have hbw:Below w.heap.size w wr:=by rw[hwr];exact Ae (cJ _) _
  have hws:wr.heap.size=w.heap.size+1:=by rw[hwr];simp
  have o0:∀j v, #[Value.int .i64 0,.int .i64 0,.int .i64 0,.int .i64 0,.int .u32 0][j]?=some v->wr.cell? ⟨w.heap.size,j,none⟩=some v:=λj v h=>by rw[hwr];simpa [go_sem]using h
  have g0:∀j,wr.frozen? ⟨w.heap.size,j,none⟩=false:=λj=>by rw[hwr];simp[go_sem]
  clear hwr;by_cases hkn:k<=48
  ·have hcell:wr.cell? ⟨0,k,none⟩=some (.int .u32 (code k)):=hC.kept hbw k (by omega);have hfl:=uM (k:Int);have hbs:bits .and .u32 (x:Int) (xL (cS k):Nat)=((x&&&xL (cS k):Nat):Int):=u32_and_nat _ _ hx (NR _);have hk1:(k:Int)<=48:=by omega
   have hk3:(k:Int)<49:=by omega
   have hk0:(0:Int)<=k:=by omega
   go_wp2_with fail
   go_quiet (first
    |(go_at_call 131;exact Calls.quiet_of_same ((Cn (k:Int) _).mono λ_ _ ⟨a,b⟩=>⟨a,b.symm⟩))
    |(go_at_call 148;exact Calls.quiet_of_same ((Qm (cS (k:Int)) hfl _).mono λ_ _ ⟨a,b⟩=>⟨a,b.symm⟩)))
   have hmt:(((x&&&xL (cS k):Nat):Int)==(code k:Int))=NQ x k:=by
    unfold NQ;by_cases e:(x&&&xL (cS k))=code k
    ·rw[e];simp
    ·have e': ¬((x&&&xL (cS k):Nat):Int)=(code k:Int):=λh=>e (by exact_mod_cast h);rw[bA.2 e',bA.2 e]
   rw[hmt];clear hmt hbs;cases hmk:NQ x k
   ·go_wp2_with fail
    go_roundw
    case rel=>exact⟨k+1,by go_num,by omega,by omega,λj h1 h2=>by
      by_cases e:j=k
      ·subst e;exact hmk
      ·exact hno j h1 (by omega),m+nq,by rw[HW.out,World.drewN_drewN]⟩
    case measure=>simp[intOf];omega
   ·have hop:EM x=k:=JE x 48 1 k hk (by omega) hmk hno;have hR:kJ x=lQ k x:=by unfold kJ;rw[hop,if_neg (by omega)]
    have hE:decE x=0:=by unfold decE;rw[hop,if_neg (by omega)]
    have HRR:=Lib.hid hR;have HEE:=Lib.hid hE;clear hR hE hop hmk hno;have cread:∀w,Calls Tryz.prog 149 #[.int .i64 k,.int .u32 x] w λe w'=>e=.returned (.agg #[.int .i64 (lQ k x).op,.int .i64 (lQ k x).rd,.int .i64 (lQ k x).rs1,.int .i64 (lQ k x).rs2,.int .u32 (lQ k x).imm])∧Below w.heap.size w w':=λw=>hRD k x w ⟨by omega,by omega⟩ hx;clear hRD;generalize lQ k x=r at *
    go_wp2_with fail
    refine(cread _).mono ?_;rintro e w3 ⟨rfl,B3⟩;have hbz:=(Ae hbw nq).trans (B3.mono (show w.heap.size<=wr.heap.size by omega));have d0:=(B3.cell (p:=⟨w.heap.size,0,none⟩) (show w.heap.size<wr.heap.size by omega)).trans (o0 0 _ rfl);have d1:=(B3.cell (p:=⟨w.heap.size,1,none⟩) (show w.heap.size<wr.heap.size by omega)).trans (o0 1 _ rfl);have d2:=(B3.cell (p:=⟨w.heap.size,2,none⟩) (show w.heap.size<wr.heap.size by omega)).trans (o0 2 _ rfl);have d3:=(B3.cell (p:=⟨w.heap.size,3,none⟩) (show w.heap.size<wr.heap.size by omega)).trans (o0 3 _ rfl);have d4:=(B3.cell (p:=⟨w.heap.size,4,none⟩) (show w.heap.size<wr.heap.size by omega)).trans (o0 4 _ rfl);have f0:=(B3.frozen (p:=⟨w.heap.size,0,none⟩) (show w.heap.size<wr.heap.size by omega)).trans (g0 0);have f1:=(B3.frozen (p:=⟨w.heap.size,1,none⟩) (show w.heap.size<wr.heap.size by omega)).trans (g0 1);have f2:=(B3.frozen (p:=⟨w.heap.size,2,none⟩) (show w.heap.size<wr.heap.size by omega)).trans (g0 2);have f3:=(B3.frozen (p:=⟨w.heap.size,3,none⟩) (show w.heap.size<wr.heap.size by omega)).trans (g0 3);have f4:=(B3.frozen (p:=⟨w.heap.size,4,none⟩) (show w.heap.size<wr.heap.size by omega)).trans (g0 4);clear o0 g0 B3
    go_wp2_with fail
    refine bodyPost_ret (v:=.tuple #[.agg #[.int .i64 r.op,.int .i64 r.rd,.int .i64 r.rs1,.int .i64 r.rs2,.int .u32 r.imm],.int .i64 0]) (by simp[results,Tryz.results116,go_sem,GA,d0,d1,d2,d3,d4];done) rfl ?_;refine⟨by rw[HRR.out,HEE.out];rfl,?_⟩
    repeat' (first|exact hbz|refine EN ?_ (aC _))
  ·have hk9:k=49:=by omega
   subst hk9;have hop:EM x=0:=JF x 48 1 hno;have hR:kJ x=ZL:=by unfold kJ;rw[hop,if_pos rfl]
   have hE:decE x=20:=by unfold decE;rw[hop,if_pos rfl]
   have HRR:=Lib.hid hR;have HEE:=Lib.hid hE;clear hR hE hop hno;have d0:=o0 0 _ rfl;have d1:=o0 1 _ rfl;have d2:=o0 2 _ rfl;have d3:=o0 3 _ rfl;have d4:=o0 4 _ rfl;have f0:=g0 0;have f1:=g0 1;have f2:=g0 2;have f3:=g0 3;have f4:=g0 4;clear o0 g0
   go_wp2_with fail
   refine bodyPost_ret (v:=.tuple #[.agg #[.int .i64 0,.int .i64 0,.int .i64 0,.int .i64 0,.int .u32 0],.int .i64 20]) (by simp[results,Tryz.results116,go_sem,GA,d0,d1,d2,d3,d4];done) rfl ?_;refine⟨by rw[HRR.out,HEE.out];rfl,?_⟩
   repeat' (first|exact hbw|refine EN ?_ (aC _))
end Go.Proofs.YtgleompefdogkaaGreatDoor
