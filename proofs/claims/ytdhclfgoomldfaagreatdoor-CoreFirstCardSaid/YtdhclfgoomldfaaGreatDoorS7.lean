/- Lemmas. -/
import Derived.Test.YtdhclfgoomldfaaGreatDoorS1
import Derived.Test.YtdhclfgoomldfaaGreatDoorS6
set_option linter.all false
namespace Go.Proofs.YtdhclfgoomldfaaGreatDoor
open Go.Proofs.Tryz
open Go.RowKit
def PY:Prop:=∀(a:Int) (x:Nat) (w:World),1<=a∧a<=48->x<4294967296->Calls Tryz.prog 166 #[.int .i64 a,.int .u32 x] w λe w'=>e=.returned (xW a x).val∧Below w.heap.size w w'
def VA:List Nat:=[0,55,23,111,103,99,4195,16483,20579,24675,28771,3,4099,8195,16387,20483,35,4131,8227,19,8211,12307,16403,24595,28691,4115,20499,1073762323,51,1073741875,4147,8243,12339,16435,20531,1073762355,24627,28723,33554483,33558579,33562675,33566771,33570867,33574963,33579059,33583155,15,115,1048691]
def cg(k:Nat):Nat:=VA.getD k 0
def HZ(k):cg k<4294967296:=by
 by_cases h:k<49
 ·have:∀k,k<49->cg k<4294967296:=dT;exact this k h
 unfold cg;rw[aR,bE (oT:49<=k)];decide
def EE(w:World):Prop:=∀k,k<49->w.cell? ⟨0,k,none⟩=some (.int .u32 (cg k))
theorem EE.kept{w w'}(h:EE w)(b:Below w.heap.size w w'):EE w':=λk a=>(b.cell (tH (h k a))).trans (h k a)
def Lh(x k:Nat):Bool:=(x&&&qH (cW k))==cg k
def iu(x:Nat):Nat->Nat->Nat
 |0,_=>0
 |n+1,k=>if Lh x k then k else iu x n (k+1)
def dw(x:Nat):Nat:=iu x 48 1
def MG:SI:=⟨0,0,0,0,0⟩
def bm(x:Nat):SI:=if dw x=0 then MG else xW (dw x) x
def he(x:Nat):Nat:=if dw x=0 then 20 else 0
theorem x0(x:Nat):∀n k,iu x n k=0∨(k<=iu x n k∧iu x n k<k+n∧Lh x (iu x n k)=true∧∀j,k<=j->j<iu x n k->Lh x j=false)
 |0,k=>.inl rfl
 | n+1,k=>by
  unfold iu;split
  ·exact .inr ⟨oT,oT,by assumption,λj c a=>absurd a oT⟩
  ·rename_i g;rcases x0 x n (k+1)with h|⟨c,a,d,f⟩
   ·exact .inl h
   ·refine .inr ⟨oT,oT,d,λj i b=>?_⟩;by_cases e:j=k
    ·subst e;simpa using g
    ·exact f j oT b
theorem EF(x:Nat):∀n k,1<=k->iu x n k=0->∀j,k<=j->j<k+n->Lh x j=false
 |0,k,_,_,j,b,a=>absurd a oT
 | n+1,k,d,h,j,b,a=>by
  unfold iu at h;split at h
  ·omega
  ·rename_i c;by_cases e:j=k
   ·subst e;simpa using c
   ·exact EF x n (k+1) oT h j oT oT
theorem JQ(x:Nat):∀n k j,k<=j->j<k+n->Lh x j=true->(∀i,k<=i->i<j->Lh x i=false)->iu x n k=j
 |0,k,j,d,a,_,_=>absurd a oT
 | n+1,k,j,d,a,b,c=>by
  unfold iu;by_cases e:j=k
  ·subst e;rw[aa b]
  ·rw[dZ (by rw[c k oT oT];simp)];exact JQ x n (k+1) j oT oT b (λi f=>c i oT)
theorem JR(x:Nat):∀n k,(∀j,k<=j->j<k+n->Lh x j=false)->iu x n k=0
 |0,_,_=>rfl
 |n+1,k,h=>by
  unfold iu;rw[dZ (by rw[h k oT oT];simp)];exact JR x n (k+1) (λj a b=>h j oT oT)
def Oy(f):qH f<4294967296:=by
 unfold qH;split<;>omega
set_option maxRecDepth 100000 in
set_option maxHeartbeats 4000000 in
theorem Oz(hRD:PY)(x:Nat)(w)(hC:EE w)(hx:x<4294967296):Calls Tryz.prog 138 #[.int .u32 x] w λe w'=>e=.returned (.tuple #[(bm x).val,.int .i64 (he x)])∧Below w.heap.size w w':=by
 go_enter func138,ntmps138
 go_wp2_with fail
 go_loopw [4] (λi wr=>∃k:Nat,i=.int .i64 k∧1<=k∧k<=49∧(∀j,1<=j->j<k->Lh x j=false)∧∃m,wr=(w.alloc (.cells #[.int .i64 0,.int .i64 0,.int .i64 0,.int .i64 0,.int .u32 0] 64)).drewN m) (λi _=>49-(intOf i).toNat)
 case atStart=>exact⟨1,rfl,aC _,oT,λj h1 h2=>absurd h2 oT,0,rfl⟩
 case round=>
  obtain⟨k,rfl,hk,hk2,hno,m,hwr⟩:=hrel;have HW:=Lib.hid hwr;have hbw:Below w.heap.size w wr:=by rw[hwr];exact Ae (cK _) _
  have hws:wr.heap.size=w.heap.size+1:=by rw[hwr];simp
  have o0:∀j v, #[Value.int .i64 0,.int .i64 0,.int .i64 0,.int .i64 0,.int .u32 0][j]?=some v->wr.cell? ⟨w.heap.size,j,none⟩=some v:=λj v h=>by rw[hwr];simpa [go_sem]using h
  have g0:∀j,wr.frozen? ⟨w.heap.size,j,none⟩=false:=λj=>by rw[hwr];simp[go_sem]
  clear hwr;by_cases hkn:k<=48
  ·have hcell:wr.cell? ⟨0,k,none⟩=some (.int .u32 (cg k)):=hC.kept hbw k oT;have hfl:=sB (k:Int);have hbs:bits .and .u32 (x:Int) (qH (cW k):Nat)=((x&&&qH (cW k):Nat):Int):=u32_and_nat _ _ hx (Oy _);have hk1:(k:Int)<=48:=oT;have hk3:(k:Int)<49:=oT;have hk0:(0:Int)<=k:=oT
   go_wp2_with fail
   go_quiet (first
    |(go_at_call 148;exact Calls.quiet_of_same ((Cb (k:Int) _).mono λ_ _ ⟨a,b⟩=>⟨a,b.symm⟩))
    |(go_at_call 165;exact Calls.quiet_of_same ((Qa (cW (k:Int)) hfl _).mono λ_ _ ⟨a,b⟩=>⟨a,b.symm⟩)))
   have hmt:(((x&&&qH (cW k):Nat):Int)==(cg k:Int))=Lh x k:=by
    unfold Lh;by_cases e:(x&&&qH (cW k))=cg k
    ·rw[e];simp
    ·have e': ¬((x&&&qH (cW k):Nat):Int)=(cg k:Int):=λh=>e (by exact_mod_cast h);rw[bA.2 e',bA.2 e]
   rw[hmt];clear hmt hbs;cases hmk:Lh x k
   ·go_wp2_with fail
    go_roundw
    case rel=>exact⟨k+1,by go_num,oT,oT,λj h1 h2=>by
      by_cases e:j=k
      ·subst e;exact hmk
      ·exact hno j h1 oT,m+nq,by rw[HW.out,World.drewN_drewN]⟩
    case measure=>simp[intOf];omega
   ·have hop:dw x=k:=JQ x 48 1 k hk oT hmk hno;have hR:bm x=xW k x:=by unfold bm;rw[hop,dZ oT]
    have hE:he x=0:=by unfold he;rw[hop,dZ oT]
    have HRR:=Lib.hid hR;have HEE:=Lib.hid hE;clear hR hE hop hmk hno;have cread:∀w,Calls Tryz.prog 166 #[.int .i64 k,.int .u32 x] w λe w'=>e=.returned (.agg #[.int .i64 (xW k x).op,.int .i64 (xW k x).rd,.int .i64 (xW k x).m,.int .i64 (xW k x).x,.int .u32 (xW k x).A])∧Below w.heap.size w w':=λw=>hRD k x w ⟨oT,oT⟩ hx;clear hRD;generalize xW k x=r at *
    go_wp2_with fail
    apply(cread _).mono;rintro e w3 ⟨rfl,B3⟩;have hbz:=(Ae hbw nq).trans (B3.mono (oT:w.heap.size<=wr.heap.size));have d0:=(B3.cell (oT:w.heap.size<wr.heap.size)).trans (o0 0 _ rfl);have d1:=(B3.cell (oT:w.heap.size<wr.heap.size)).trans (o0 1 _ rfl);have d2:=(B3.cell (oT:w.heap.size<wr.heap.size)).trans (o0 2 _ rfl);have d3:=(B3.cell (oT:w.heap.size<wr.heap.size)).trans (o0 3 _ rfl);have d4:=(B3.cell (oT:w.heap.size<wr.heap.size)).trans (o0 4 _ rfl);have f0:=(B3.frozen (oT:w.heap.size<wr.heap.size)).trans (g0 0);have f1:=(B3.frozen (oT:w.heap.size<wr.heap.size)).trans (g0 1);have f2:=(B3.frozen (oT:w.heap.size<wr.heap.size)).trans (g0 2);have f3:=(B3.frozen (oT:w.heap.size<wr.heap.size)).trans (g0 3);have f4:=(B3.frozen (oT:w.heap.size<wr.heap.size)).trans (g0 4);clear o0 g0 B3
    go_wp2_with fail
    apply bodyPost_ret (v:=.tuple #[.agg #[.int .i64 r.op,.int .i64 r.rd,.int .i64 r.m,.int .i64 r.x,.int .u32 r.A],.int .i64 0]) (by simp[results,Tryz.results138,go_sem,GC,d0,d1,d2,d3,d4];done) rfl;refine⟨by rw[HRR.out,HEE.out];rfl,?_⟩
    repeat' (first|exact hbz|refine EH ?_ (aC _))
  ·have hk9:k=49:=oT;subst hk9;have hop:dw x=0:=JR x 48 1 hno;have hR:bm x=MG:=by unfold bm;rw[hop,aa rfl]
   have hE:he x=20:=by unfold he;rw[hop,aa rfl]
   have HRR:=Lib.hid hR;have HEE:=Lib.hid hE;clear hR hE hop hno;have d0:=o0 0 _ rfl;have d1:=o0 1 _ rfl;have d2:=o0 2 _ rfl;have d3:=o0 3 _ rfl;have d4:=o0 4 _ rfl;have f0:=g0 0;have f1:=g0 1;have f2:=g0 2;have f3:=g0 3;have f4:=g0 4;clear o0 g0
   go_wp2_with fail
   apply bodyPost_ret (v:=.tuple #[.agg #[.int .i64 0,.int .i64 0,.int .i64 0,.int .i64 0,.int .u32 0],.int .i64 20]) (by simp[results,Tryz.results138,go_sem,GC,d0,d1,d2,d3,d4];done) rfl;refine⟨by rw[HRR.out,HEE.out];rfl,?_⟩
   repeat' (first|exact hbw|refine EH ?_ (aC _))
end Go.Proofs.YtdhclfgoomldfaaGreatDoor
