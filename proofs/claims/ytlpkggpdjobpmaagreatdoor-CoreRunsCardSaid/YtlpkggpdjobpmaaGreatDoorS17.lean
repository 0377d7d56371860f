/- Lemmas. -/
import Derived.Test.YtlpkggpdjobpmaaGreatDoorS1
import Derived.Test.YtlpkggpdjobpmaaGreatDoorS16
set_option linter.all false
namespace Go.Proofs.YtlpkggpdjobpmaaGreatDoor
open Go.Proofs.Tryz
open Go.RowKit
def Fo(s:ByteArray)(hs:s.size<=4):joinTo s.data.toList s.size<4294967296:=
 af3 (yK _ _) (aL (bU dT hs) dT)
def loadP(op:Int)(s:ByteArray):Nat:=
 if kindOf op=3∧s.size=sizeOf' op then(if op=11 then sext (joinTo s.data.toList s.size) 8 else if op=12 then sext (joinTo s.data.toList s.size) 16 else joinTo s.data.toList s.size)else 0
def lQ(op):sizeOf' op<=4:=by
 unfold sizeOf'
 repeat' (split<;>try omega)
set_option maxHeartbeats 4000000 in
theorem UE(op)(s)(w)(hs:s.size<9223372036854775808):Calls Tryz.prog 105 #[.int .i64 op,.string s] w λe w'=>e=.returned (.int .u32 (loadP op s))∧Below w.heap.size w w':=by
 have ck:=λw=>IP op 0 0 0 0 w;have cs:=λw=>Nz op 0 0 0 0 w;have hz:=lQ op;have M0:=Mine.new w #[.int .i64 op,.int .i64 0,.int .i64 0,.int .i64 0,.int .u32 0] 70;have hv:loadP op s=if kindOf op=3∧s.size=sizeOf' op then(if op=11 then sext (joinTo s.data.toList s.size) 8 else if op=12 then sext (joinTo s.data.toList s.size) 16 else joinTo s.data.toList s.size)else 0:=rfl
 generalize loadP op s=v at *;generalize kindOf op=k at *;generalize sizeOf' op=z at *;by_cases hk:k=3
 ·subst hk;by_cases hsz:s.size=z
  ·rw[af1 ⟨rfl,hsz⟩]at hv;have cj:=λw=>NB s w oT;have hjl:=Fo s oT;generalize joinTo s.data.toList s.size=j at *;have q:((s.size:Int) != z)=false:=by simp;omega
   have c8:=λw=>Ic j 8 w dT dT hjl;have c16:=λw=>Ic j 16 w dT dT hjl;have hc:(op=11∧v=sext j 8)∨(op=12∧v=sext j 16)∨(op≠11∧op≠12∧v=j):=by
    by_cases a:op=11
    ·exact .inl ⟨a,by rw[hv,af1 a]⟩
    ·by_cases b:op=12
     ·exact .inr (.inl ⟨b,by rw[hv,dZ a,af1 b]⟩)
     ·exact .inr (.inr ⟨a,b,by rw[hv,dZ a,dZ b]⟩)
   clear hv;rcases hc with ⟨rfl,rfl⟩|⟨rfl,rfl⟩|⟨a,b,rfl⟩
   case' inl=>have cx:=c8
   case' inr.inl=>have cx:=c16
   case' inr.inr=>
    have cx:=c8;have m1:(op==(11:Int))=false:=sU a;have m2:(op==(12:Int))=false:=sU b;clear a b
   all_goals
    go_enter func105,ntmps105
    go_wp2_with fail
    refine(ck _).mono ?_;rintro e w1 ⟨rfl,b1⟩;have M1:=M0.kept b1;have d0:=M1.c 0 _ rfl;have d1:=M1.c 1 _ rfl;have d2:=M1.c 2 _ rfl;have d3:=M1.c 3 _ rfl;have d4:=M1.c 4 _ rfl;have hb1:=(cK _).and b1;clear M1 M0 b1
    go_wp2_with fail
    refine(cs _).mono ?_;rintro e w2 ⟨rfl,b2⟩;have hb2:=hb1.and b2;clear hb1 b2 d0 d1 d2 d3 d4
    go_wp2_with fail
    refine(cj _).mono ?_;rintro e w3 ⟨rfl,rfl⟩;clear c8 c16
    go_wp2_with (go_at_call 149;refine(cx _).mono ?_;rintro e w4 ⟨rfl,b4⟩)
    go_ret
    first|exact⟨rfl,hb2.and b4⟩|exact⟨rfl,hb2⟩
  ·rw[dZ (λq=>hsz q.2)]at hv;subst hv;have q:((s.size:Int) != z)=true:=by simp;omega
   go_enter func105,ntmps105
   go_wp2_with fail
   refine(ck _).mono ?_;rintro e w1 ⟨rfl,b1⟩;have M1:=M0.kept b1;have d0:=M1.c 0 _ rfl;have d1:=M1.c 1 _ rfl;have d2:=M1.c 2 _ rfl;have d3:=M1.c 3 _ rfl;have d4:=M1.c 4 _ rfl;have hb1:=(cK _).and b1;clear M1 M0 b1
   go_wp2_with fail
   refine(cs _).mono ?_;rintro e w2 ⟨rfl,b2⟩;have hb2:=hb1.and b2;clear hb1 b2 d0 d1 d2 d3 d4
   go_wp2_with fail
   go_ret
   exact⟨rfl,hb2⟩
 ·rw[dZ (λq=>hk q.1)]at hv;subst hv;have q:((k:Int) != 3)=true:=by simp;omega
  clear hk
  go_enter func105,ntmps105
  go_wp2_with fail
  refine(ck _).mono ?_;rintro e w1 ⟨rfl,b1⟩;have hb1:=(cK _).and b1;clear M0 b1
  go_wp2_with fail
  go_ret
  exact⟨rfl,hb1⟩
end Go.Proofs.YtlpkggpdjobpmaaGreatDoor
