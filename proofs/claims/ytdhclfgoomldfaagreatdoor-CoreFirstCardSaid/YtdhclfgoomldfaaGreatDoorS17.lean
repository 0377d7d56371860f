/- Lemmas. -/
import Derived.Test.YtdhclfgoomldfaaGreatDoorS1
import Derived.Test.YtdhclfgoomldfaaGreatDoorS16
set_option linter.all false
namespace Go.Proofs.YtdhclfgoomldfaaGreatDoor
open Go.Proofs.Tryz
open Go.RowKit
def Fo(s:ByteArray)(a:s.size<=4):c6 s.data.toList s.size<4294967296:=
 ep (yK _ _) (aL (bU dT a) dT)
def hL(a:Int)(s:ByteArray):Nat:=
 if ak a=3∧s.size=a' a then(if a=11 then cp (c6 s.data.toList s.size) 8 else if a=12 then cp (c6 s.data.toList s.size) 16 else c6 s.data.toList s.size)else 0
def lQ(a):a' a<=4:=by
 unfold a'
 repeat' (split<;>try omega)
set_option maxHeartbeats 4000000 in
theorem UE(op)(s)(w)(hs:s.size<9223372036854775808):Calls Tryz.prog 118 #[.int .i64 op,.string s] w λe w'=>e=.returned (.int .u32 (hL op s))∧Below w.heap.size w w':=by
 have ck:=λw=>IP op 0 0 0 0 w;have cs:=λw=>Nz op 0 0 0 0 w;have hz:=lQ op;have M0:=f'.new w #[.int .i64 op,.int .i64 0,.int .i64 0,.int .i64 0,.int .u32 0] 64;have hv:hL op s=if ak op=3∧s.size=a' op then(if op=11 then cp (c6 s.data.toList s.size) 8 else if op=12 then cp (c6 s.data.toList s.size) 16 else c6 s.data.toList s.size)else 0:=rfl
 generalize hL op s=v at *;generalize ak op=k at *;generalize a' op=z at *;by_cases hk:k=3
 ·subst hk;by_cases hsz:s.size=z
  ·rw[aa ⟨rfl,hsz⟩]at hv;have cj:=λw=>NB s w oT;have hjl:=Fo s oT;generalize c6 s.data.toList s.size=j at *;have q:((s.size:Int) != z)=false:=by simp;omega
   have c8:=λw=>Ic j 8 w dT dT hjl;have c16:=λw=>Ic j 16 w dT dT hjl;have hc:(op=11∧v=cp j 8)∨(op=12∧v=cp j 16)∨(op≠11∧op≠12∧v=j):=by
    by_cases a:op=11
    ·exact .inl ⟨a,by rw[hv,aa a]⟩
    ·by_cases b:op=12
     ·exact .inr (.inl ⟨b,by rw[hv,dZ a,aa b]⟩)
     ·exact .inr (.inr ⟨a,b,by rw[hv,dZ a,dZ b]⟩)
   clear hv;rcases hc with ⟨rfl,rfl⟩|⟨rfl,rfl⟩|⟨a,b,rfl⟩
   case' inl=>have cx:=c8
   case' inr.inl=>have cx:=c16
   case' inr.inr=>
    have cx:=c8;have m1:(op==(11:Int))=false:=sU a;have m2:(op==(12:Int))=false:=sU b;clear a b
   all_goals
    go_enter func118,ntmps118
    go_wp2_with fail
    apply(ck _).mono;rintro e w1 ⟨rfl,b1⟩;have M1:=M0.kept b1;have d0:=M1.c 0 _ rfl;have d1:=M1.c 1 _ rfl;have d2:=M1.c 2 _ rfl;have d3:=M1.c 3 _ rfl;have d4:=M1.c 4 _ rfl;have hb1:=(cK _).and b1;clear M1 M0 b1
    go_wp2_with fail
    apply(cs _).mono;rintro e w2 ⟨rfl,b2⟩;have hb2:=hb1.and b2;clear hb1 b2 d0 d1 d2 d3 d4
    go_wp2_with fail
    apply(cj _).mono;rintro e w3 ⟨rfl,rfl⟩;clear c8 c16
    go_wp2_with (go_at_call 150;refine(cx _).mono ?_;rintro e w4 ⟨rfl,b4⟩)
    go_ret
    first|exact⟨rfl,hb2.and b4⟩|exact⟨rfl,hb2⟩
  ·rw[dZ (λq=>hsz q.2)]at hv;subst hv;have q:((s.size:Int) != z)=true:=by simp;omega
   go_enter func118,ntmps118
   go_wp2_with fail
   apply(ck _).mono;rintro e w1 ⟨rfl,b1⟩;have M1:=M0.kept b1;have d0:=M1.c 0 _ rfl;have d1:=M1.c 1 _ rfl;have d2:=M1.c 2 _ rfl;have d3:=M1.c 3 _ rfl;have d4:=M1.c 4 _ rfl;have hb1:=(cK _).and b1;clear M1 M0 b1
   go_wp2_with fail
   apply(cs _).mono;rintro e w2 ⟨rfl,b2⟩;have hb2:=hb1.and b2;clear hb1 b2 d0 d1 d2 d3 d4
   go_wp2_with fail
   go_ret
   exact⟨rfl,hb2⟩
 ·rw[dZ (λq=>hk q.1)]at hv;subst hv;have q:((k:Int) != 3)=true:=by simp;omega
  clear hk
  go_enter func118,ntmps118
  go_wp2_with fail
  apply(ck _).mono;rintro e w1 ⟨rfl,b1⟩;have hb1:=(cK _).and b1;clear M0 b1
  go_wp2_with fail
  go_ret
  exact⟨rfl,hb1⟩
end Go.Proofs.YtdhclfgoomldfaaGreatDoor
