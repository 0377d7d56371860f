import Derived.Deep.DeepCutAuto
import Derived.Test.YtiaekocjeinkjaaGreatDoorS5
set_option linter.all false
namespace Go.Proofs.YtiaekocjeinkjaaGreatDoor
open Go.Proofs.Tryz
open Go.RowKit
structure SI where
 op:Int
 rd:Int
 y:Int
 A:Int
 C:Nat
def SI.val(i:SI):Value:=.agg #[.int .i64 i.op,.int .i64 i.rd,.int .i64 i.y,.int .i64 i.A,.int .u32 i.C]
def EG(f x:Nat):Nat:=
 if f=3 then(rZ x (eQ f)).1*2 ^ qN f%4294967296
 else if f=1\/f=8 then 0
 else cv ((rZ x (eQ f)).1*2 ^ qN f%4294967296) (xH (eQ f)+qN f)
def xW(op:Int)(x:Nat):SI:=
 {op:=op,rd:=if yW (cW op)then(ar x 7 5:Nat)else 0,y:=if uS (cW op)then(ar x 15 5:Nat)else 0,
  A:=if vS (cW op)then(ar x 20 5:Nat)else 0,C:=EG (cW op) x}
def GC{w:World}{a:Addr}{v:Value}(h:(w.cell? a).isSome=true):(w.setCell a v).cell? a=some v:=by
 obtain⟨u,b⟩:=FH.1 h;exact World.cell?_setCell_same _ _ _ b
def EH{B:Nat}{a w:World}{b k:Nat}{v:Value}(h:Below B a w)(c:B<=b):Below B a (w.setCell ⟨b,k,none⟩ v):=Below.setCell h c v
def PZ(w:World):Calls Tryz.prog 201 #[.int .u32 0,.int .i64 0] w λe w'=>e=.returned (.int .u32 0)/\Below w.heap.size w w':=by
 go_enter func201,ntmps201
 go_wp2
 go_ret
 exact⟨R,rD _⟩
def BA(x f:Nat):(rZ x (eQ f)).2=xH (eQ f)/\(rZ x (eQ f)).1<4294967296:=by
 have:=CR x (eQ f) (0,0) (by show 0<4294967296;omega) (vF f).1 (oH ((vF f).2));exact⟨by have h:=this.2;unfold rZ;rw[h];exact bJ _,this.1⟩
def Ia(x n:Nat)(a:n<=32):cv x n<4294967296:=by
 have hp:=wV a;have:=aQ x (eI n);unfold cv;split<;>omega
def PY:Prop:=∀(a:Int) (x:Nat) (w:World),1<=a/\a<=48->x<4294967296->Calls Tryz.prog 217 #[.int .i64 a,.int .u32 x] w λe w'=>e=.returned (xW a x).val/\Below w.heap.size w w'
def VA:List Nat:=[0,55,23,111,103,99,4195,16483,20579,24675,28771,3,4099,8195,16387,20483,35,4131,8227,19,8211,12307,16403,24595,28691,4115,20499,1073762323,51,1073741875,4147,8243,12339,16435,20531,1073762355,24627,28723,33554483,33558579,33562675,33566771,33570867,33574963,33579059,33583155,15,115,1048691]
def cm(k:Nat):Nat:=VA.getD k 0
def HZ(k:Nat):cm k<4294967296:=by
 by_cases h:k<49
 .have:∀k,k<49->cm k<4294967296:=dT;exact this k h
 unfold cm;rw[aR,bE (by show 49<=k;omega)];decide
def EE(w:World):Prop:=∀k,k<49->w.cell? ⟨0,k,none⟩=some (.int .u32 (cm k))
theorem EE.kept{w w':World}(h:EE w)(b:Below w.heap.size w w'):EE w':=λk a=>(b.cell (tH (h k a))).trans (h k a)
def Lh(x k:Nat):Bool:=(x&&&qH (cW k))==cm k
def jg(x:Nat):Nat->Nat->Nat
 |0,_=>0
 |n+1,k=>if Lh x k then k else jg x n (k+1)
def dq(x:Nat):Nat:=jg x 48 1
def MG:SI:=⟨0,0,0,0,0⟩
def be(x:Nat):SI:=if dq x=0 then MG else xW (dq x) x
def g7(x:Nat):Nat:=if dq x=0 then 20 else 0
theorem xq(x:Nat):∀n k,jg x n k=0\/(k<=jg x n k/\jg x n k<k+n/\Lh x (jg x n k)=true/\∀j,k<=j->j<jg x n k->Lh x j=false)
 |0,k=>.inl R
 | n+1,k=>by
  unfold jg;split
  .exact .inr ⟨oT,oT,by assumption,λj c a=>absurd a oT⟩
  .rename_i g;rcases xq x n (k+1)with h|⟨c,a,d,f⟩
   .exact .inl h
   .refine .inr ⟨oT,oT,d,λj i b=>?_⟩;by_cases e:j=k
    .subst e;simpa using g
    .exact f j oT b
theorem EF(x:Nat):∀n k,1<=k->jg x n k=0->∀j,k<=j->j<k+n->Lh x j=false
 |0,k,_,_,j,b,a=>absurd a oT
 | n+1,k,d,h,j,b,a=>by
  unfold jg at h;split at h
  .omega
  .rename_i c;by_cases e:j=k
   .subst e;simpa using c
   .exact EF x n (k+1) oT h j oT oT
theorem JQ(x:Nat):∀n k j,k<=j->j<k+n->Lh x j=true->(∀i,k<=i->i<j->Lh x i=false)->jg x n k=j
 |0,k,j,d,a,_,_=>absurd a oT
 | n+1,k,j,d,a,b,c=>by
  unfold jg;by_cases e:j=k
  .subst e;rw[aa b]
  .rw[dZ (by rw[c k oT oT];simp)];exact JQ x n (k+1) j oT oT b (λi f=>c i oT)
theorem JR(x:Nat):∀n k,(∀j,k<=j->j<k+n->Lh x j=false)->jg x n k=0
 |0,_,_=>rfl
 |n+1,k,h=>by
  unfold jg;rw[dZ (by rw[h k oT oT];simp)];exact JR x n (k+1) (λj a b=>h j oT oT)
def Oy(f:Nat):qH f<4294967296:=by
 unfold qH;split<;>omega
set_option maxRecDepth 100000 in
set_option maxHeartbeats 4000000 in
theorem Oz(hRD:PY)(x:Nat)(w:World)(hC:EE w)(hx:x<4294967296):Calls Tryz.prog 185 #[.int .u32 x] w λe w'=>e=.returned (.tuple #[(be x).val,.int .i64 (g7 x)])/\Below w.heap.size w w':=by
 go_enter func185,ntmps185
 go_wp2_with fail
 go_loopw [4] (λi wr=>∃k:Nat,i=.int .i64 k/\1<=k/\k<=49/\(∀j,1<=j->j<k->Lh x j=false)/\∃m,wr=(w.alloc (.cells #[.int .i64 0,.int .i64 0,.int .i64 0,.int .i64 0,.int .u32 0] 87)).drewN m) (λi _=>49-(intOf i).toNat)
 case atStart=>exact⟨1,R,aC _,oT,λj h1 h2=>absurd h2 oT,0,R⟩
 case round=>
  obtain⟨k,rfl,hk,hk2,hno,m,hwr⟩:=hrel;have HW:=Lib.hid hwr;have hbw:Below w.heap.size w wr:=by rw[hwr];exact Ae (cK _) _
  have hws:wr.heap.size=w.heap.size+1:=by rw[hwr];simp
  have o0:∀j v, #[Value.int .i64 0,.int .i64 0,.int .i64 0,.int .i64 0,.int .u32 0][j]?=some v->wr.cell? ⟨w.heap.size,j,none⟩=some v:=λj v h=>by rw[hwr];simpa [go_sem]using h
  have g0:∀j,wr.frozen? ⟨w.heap.size,j,none⟩=false:=λj=>by rw[hwr];simp[go_sem]
  clear hwr;by_cases hkn:k<=48
  .have hcell:wr.cell? ⟨0,k,none⟩=some (.int .u32 (cm k)):=hC.kept hbw k oT;have hfl:=sB (k:Int);have hbs:bits .and .u32 (x:Int) (qH (cW k):Nat)=((x&&&qH (cW k):Nat):Int):=u32_and_nat _ _ hx (Oy _);have hk1:(k:Int)<=48:=oT;have hk3:(k:Int)<49:=oT;have hk0:(0:Int)<=k:=oT
   go_wp2_with fail
   go_quiet (first
    |(go_at_call 199;exact Calls.quiet_of_same ((Cb (k:Int) _).mono λ_ _ ⟨a,b⟩=>⟨a,b.symm⟩))
    |(go_at_call 216;exact Calls.quiet_of_same ((Qa (cW (k:Int)) hfl _).mono λ_ _ ⟨a,b⟩=>⟨a,b.symm⟩)))
   have hmt:(((x&&&qH (cW k):Nat):Int)==(cm k:Int))=Lh x k:=by
    unfold Lh;by_cases e:(x&&&qH (cW k))=cm k
    .rw[e];simp
    .have e': ¬((x&&&qH (cW k):Nat):Int)=(cm k:Int):=λh=>e (by exact_mod_cast h);rw[bA.2 e',bA.2 e]
   rw[hmt];clear hmt hbs;cases hmk:Lh x k
   .go_wp2_with fail
    go_roundw
    case rel=>exact⟨k+1,by go_num,oT,oT,λj h1 h2=>by
      by_cases e:j=k
      .subst e;exact hmk
      .exact hno j h1 oT,m+nq,by rw[HW.out,World.drewN_drewN]⟩
    case measure=>simp[intOf];omega
   .have hop:dq x=k:=JQ x 48 1 k hk oT hmk hno;have hR:be x=xW k x:=by unfold be;rw[hop,dZ oT]
    have hE:g7 x=0:=by unfold g7;rw[hop,dZ oT]
    have HRR:=Lib.hid hR;have HEE:=Lib.hid hE;clear hR hE hop hmk hno;have cread:∀w,Calls Tryz.prog 217 #[.int .i64 k,.int .u32 x] w λe w'=>e=.returned (.agg #[.int .i64 (xW k x).op,.int .i64 (xW k x).rd,.int .i64 (xW k x).y,.int .i64 (xW k x).A,.int .u32 (xW k x).C])/\Below w.heap.size w w':=λw=>hRD k x w ⟨oT,oT⟩ hx;clear hRD;generalize xW k x=r at *
    go_wp2_with fail
    refine(cread _).mono ?_;rintro e w3 ⟨rfl,B3⟩;have hbz:=(Ae hbw nq).trans (B3.mono (oT:w.heap.size<=wr.heap.size));have d0:=(B3.cell (p:=⟨w.heap.size,0,none⟩) (oT:w.heap.size<wr.heap.size)).trans (o0 0 _ R);have d1:=(B3.cell (p:=⟨w.heap.size,1,none⟩) (oT:w.heap.size<wr.heap.size)).trans (o0 1 _ R);have d2:=(B3.cell (p:=⟨w.heap.size,2,none⟩) (oT:w.heap.size<wr.heap.size)).trans (o0 2 _ R);have d3:=(B3.cell (p:=⟨w.heap.size,3,none⟩) (oT:w.heap.size<wr.heap.size)).trans (o0 3 _ R);have d4:=(B3.cell (p:=⟨w.heap.size,4,none⟩) (oT:w.heap.size<wr.heap.size)).trans (o0 4 _ R);have f0:=(B3.frozen (p:=⟨w.heap.size,0,none⟩) (oT:w.heap.size<wr.heap.size)).trans (g0 0);have f1:=(B3.frozen (p:=⟨w.heap.size,1,none⟩) (oT:w.heap.size<wr.heap.size)).trans (g0 1);have f2:=(B3.frozen (p:=⟨w.heap.size,2,none⟩) (oT:w.heap.size<wr.heap.size)).trans (g0 2);have f3:=(B3.frozen (p:=⟨w.heap.size,3,none⟩) (oT:w.heap.size<wr.heap.size)).trans (g0 3);have f4:=(B3.frozen (p:=⟨w.heap.size,4,none⟩) (oT:w.heap.size<wr.heap.size)).trans (g0 4);clear o0 g0 B3
    go_wp2_with fail
    refine bodyPost_ret (v:=.tuple #[.agg #[.int .i64 r.op,.int .i64 r.rd,.int .i64 r.y,.int .i64 r.A,.int .u32 r.C],.int .i64 0]) (by simp[results,Tryz.results185,go_sem,GC,d0,d1,d2,d3,d4];done) R ?_;refine⟨by rw[HRR.out,HEE.out];rfl,?_⟩
    repeat' (first|exact hbz|refine EH ?_ (aC _))
  .have hk9:k=49:=oT;subst hk9;have hop:dq x=0:=JR x 48 1 hno;have hR:be x=MG:=by unfold be;rw[hop,aa R]
   have hE:g7 x=20:=by unfold g7;rw[hop,aa R]
   have HRR:=Lib.hid hR;have HEE:=Lib.hid hE;clear hR hE hop hno;have d0:=o0 0 _ R;have d1:=o0 1 _ R;have d2:=o0 2 _ R;have d3:=o0 3 _ R;have d4:=o0 4 _ R;have f0:=g0 0;have f1:=g0 1;have f2:=g0 2;have f3:=g0 3;have f4:=g0 4;clear o0 g0
   go_wp2_with fail
   refine bodyPost_ret (v:=.tuple #[.agg #[.int .i64 0,.int .i64 0,.int .i64 0,.int .i64 0,.int .u32 0],.int .i64 20]) (by simp[results,Tryz.results185,go_sem,GC,d0,d1,d2,d3,d4];done) R ?_;refine⟨by rw[HRR.out,HEE.out];rfl,?_⟩
   repeat' (first|exact hbw|refine EH ?_ (aC _))
end Go.Proofs.YtiaekocjeinkjaaGreatDoor
