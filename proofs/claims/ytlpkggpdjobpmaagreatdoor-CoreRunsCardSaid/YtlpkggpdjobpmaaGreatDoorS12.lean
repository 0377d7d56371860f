/- Lemmas. -/
import Derived.Lib.ItoaNum
import Derived.Test.YtlpkggpdjobpmaaGreatDoorS1
import Derived.Test.YtlpkggpdjobpmaaGreatDoorS9
import Derived.Test.YtlpkggpdjobpmaaGreatDoorS10
import Derived.Test.YtlpkggpdjobpmaaGreatDoorS11
set_option linter.all false
namespace Go.Proofs.YtlpkggpdjobpmaaGreatDoor
open Go.Proofs.Tryz
open Go.RowKit
def sizeP(op:Int)(x:Nat):Nat:=if(op=42∨op=44)∧2147483648<=x then 4294967296-x else x
def zI(op:Int)(s x:Nat):Nat:=if(op=42∨op=44)∧2147483648<=x then(4294967296-s)%4294967296 else s
def divP(op:Int)(a b:Nat):Nat:=
 if op=42∨op=43 then(if b=0 then 4294967295 else zI op (sizeP op a/sizeP op b) (a^^^b))
 else if op=44∨op=45 then(if b=0 then a else zI op (sizeP op a%sizeP op b) a)else 0
def lenP(x:Nat):Nat:=Lib.bitLen x
def tookP(op:Int)(a b:Nat):Nat:=
 if op<42∨45<op then 0 else if b=0∨sizeP op a<sizeP op b then 2 else 3+lenP (sizeP op a)-lenP (sizeP op b)
def pT(op)(x)(h:x<4294967296):sizeP op x<4294967296:=by unfold sizeP;split<;>omega
def yJ(op)(x)(h:x<4294967296)(h0:x≠0):0<sizeP op x:=by unfold sizeP;split<;>omega
set_option maxHeartbeats 4000000 in
theorem Bp(op)(x:Nat)(w)(hx:x<4294967296):Calls Tryz.prog 180 #[.int .i64 op,.int .u32 x] w λe w'=>e=.returned (.int .u32 (sizeP op x))∧w=w':=by
 have wx:=xD x hx;have hc:(op=42∧2147483648<=x)∨(op=42∧x<2147483648)∨(op=44∧2147483648<=x)∨(op=44∧x<2147483648)∨(op≠42∧op≠44):=oT;have hs:(2147483648<=x->decide (sgn x<0)=true)∧(x<2147483648->decide (sgn x<0)=false):=by
  unfold sgn;constructor
  ·intro h;rw[dZ oT];simp;omega
  ·intro h;rw[af1 oT];simp
 have hb:=Lib.hid hs;clear hs;rcases hc with ⟨rfl,h⟩|⟨rfl,h⟩|⟨rfl,h⟩|⟨rfl,h⟩|⟨h1,h2⟩
 ·have hd:=hb.out.1 h
  go_enter func180,ntmps180
  go_wp2_with fail
  go_ret
  refine⟨gH ?_,rfl⟩;rw[show sizeP 42 x=4294967296-x by simp[sizeP,h]];omega
 ·have hd:=hb.out.2 h
  go_enter func180,ntmps180
  go_wp2_with fail
  go_ret
  refine⟨gH ?_,rfl⟩;rw[show sizeP 42 x=x by unfold sizeP;rw[dZ oT]]
 ·have hd:=hb.out.1 h
  go_enter func180,ntmps180
  go_wp2_with fail
  go_ret
  refine⟨gH ?_,rfl⟩;rw[show sizeP 44 x=4294967296-x by simp[sizeP,h]];omega
 ·have hd:=hb.out.2 h
  go_enter func180,ntmps180
  go_wp2_with fail
  go_ret
  refine⟨gH ?_,rfl⟩;rw[show sizeP 44 x=x by unfold sizeP;rw[dZ oT]]
 ·have m1:(op==(42:Int))=false:=sU h1;have m2:(op==(44:Int))=false:=sU h2;have hv:Hid (sizeP op x=x):=by show _=_;unfold sizeP;rw[dZ oT]
  clear h1 h2
  go_enter func180,ntmps180
  go_wp2_with fail
  go_ret
  exact⟨by rw[hv.out];rfl,rfl⟩
def IM(x:Nat)(h:x<4294967296):lenP x<=32:=Lib.bitLen_le x 32 dT h
def Kz(x y)(hx:x<4294967296)(hy:y<4294967296)(h:x<=y)(h0:x≠0):lenP x<=lenP y:=by
 obtain⟨a1,a2,a3⟩:=Lib.bitLenAux_bounds 64 x (agB hx dT) h0;obtain⟨b1,b2,b3⟩:=Lib.bitLenAux_bounds 64 y (agB hy dT) oT;have h1:2 ^ (Lib.bitLenAux 64 x-1)<2 ^ Lib.bitLenAux 64 y:=bL a2 (bL h b3);have h2:Lib.bitLenAux 64 x-1<Lib.bitLenAux 64 y:=(Nat.pow_lt_pow_iff_right dT).1 h1;show Lib.bitLenAux 64 x<=Lib.bitLenAux 64 y;omega
def Nx(x:Nat)(w)(hx:x<4294967296):Calls Tryz.prog 181 #[.int .u32 x] w λe w'=>e=.returned (.int .i64 (lenP x))∧w=w':=by
 go_enter func181,ntmps181
 go_wp2_with (go_at_call 192;refine(Rt x _ hx).mono ?_;rintro e w' ⟨rfl,rfl⟩)
 go_ret
 exact⟨rfl,rfl⟩
set_option maxHeartbeats 4000000 in
theorem UC(op)(a b:Nat)(w)(ha:a<4294967296)(hb:b<4294967296):Calls Tryz.prog 162 #[.int .i64 op,.int .u32 a,.int .u32 b] w λe w'=>e=.returned (.int .i64 (tookP op a b))∧w=w':=by
 by_cases h1:op<42
 ·have hv:Hid (tookP op a b=0):=by show _=_;unfold tookP;rw[af1 (.inl h1)]
  go_enter func162,ntmps162
  go_wp2_with fail
  go_ret
  exact⟨by rw[hv.out];rfl,rfl⟩
 by_cases h2:45<op
 ·have hv:Hid (tookP op a b=0):=by show _=_;unfold tookP;rw[af1 (.inr h2)]
  have d1:decide (op<42)=false:=by simp;omega
  go_enter func162,ntmps162
  go_wp2_with fail
  go_ret
  exact⟨by rw[hv.out];rfl,rfl⟩
 have d1:decide (op<42)=false:=by simp;omega
 have d2:decide (45<op)=false:=by simp;omega
 have ca:=λw=>Bp op a w ha;have cb:=λw=>Bp op b w hb;have la:=pT op a ha;have lb:=pT op b hb;have pb:=yJ op b hb;have hv:tookP op a b=if b=0∨sizeP op a<sizeP op b then 2 else 3+lenP (sizeP op a)-lenP (sizeP op b):=by unfold tookP;rw[dZ oT]
 generalize sizeP op a=x at *;generalize sizeP op b=y at *;generalize tookP op a b=t at *;by_cases hb0:b=0
 ·rw[af1 (.inl hb0)]at hv;subst hv hb0
  go_enter func162,ntmps162
  go_wp2_with fail
  refine(ca _).mono ?_;rintro e w' ⟨rfl,rfl⟩
  go_wp2_with fail
  refine(cb _).mono ?_;rintro e w' ⟨rfl,rfl⟩
  go_wp2_with fail
  go_ret
  exact⟨rfl,rfl⟩
 by_cases hxy:x<y
 ·rw[af1 (.inr hxy)]at hv;subst hv;have m1:((b:Int)==0)=false:=by simp;omega
  go_enter func162,ntmps162
  go_wp2_with fail
  refine(ca _).mono ?_;rintro e w' ⟨rfl,rfl⟩
  go_wp2_with fail
  refine(cb _).mono ?_;rintro e w' ⟨rfl,rfl⟩
  go_wp2_with fail
  go_ret
  exact⟨rfl,rfl⟩
 ·rw[dZ oT]at hv;have m1:((b:Int)==0)=false:=by simp;omega
  have m2:decide ((x:Int)<y)=false:=by simp;omega
  have m3:y<=x:=oT;have cx:=λw=>Nx x w la;have cy:=λw=>Nx y w lb;have hy0:=pb hb0;have l1:=IM x la;have l2:=IM y lb;have l3:=Kz y x lb la oT oT;generalize lenP x=m at *;generalize lenP y=n at *;have hq:Hid ((2:Int)+m-n+1=(t:Int)):=by show _=_;omega
  clear hv pb hxy
  go_enter func162,ntmps162
  go_wp2_with fail
  refine(ca _).mono ?_;rintro e w' ⟨rfl,rfl⟩
  go_wp2_with fail
  refine(cb _).mono ?_;rintro e w' ⟨rfl,rfl⟩
  go_wp2_with fail
  refine(cx _).mono ?_;rintro e w' ⟨rfl,rfl⟩
  go_wp2_with fail
  refine(cy _).mono ?_;rintro e w' ⟨rfl,rfl⟩
  go_wp2_with fail
  go_ret
  exact⟨by rw[<-hq.out];rfl,rfl⟩
end Go.Proofs.YtlpkggpdjobpmaaGreatDoor
