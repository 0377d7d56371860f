/- Lemmas. -/
import Derived.Lib.ItoaNum
import Derived.Test.YtffibhgbpgjioaaGreatDoorS1
import Derived.Test.YtffibhgbpgjioaaGreatDoorS9
import Derived.Test.YtffibhgbpgjioaaGreatDoorS10
import Derived.Test.YtffibhgbpgjioaaGreatDoorS11
set_option linter.all false
namespace Go.Proofs.YtffibhgbpgjioaaGreatDoor
open Go.Proofs.Tryz
open Go.RowKit
def fS(op:Int)(x:Nat):Nat:=if(op=42∨op=44)∧2147483648<=x then 4294967296-x else x
def zI(op:Int)(s x:Nat):Nat:=if(op=42∨op=44)∧2147483648<=x then(4294967296-s)%4294967296 else s
def ah5(op:Int)(a b:Nat):Nat:=
 if op=42∨op=43 then(if b=0 then 4294967295 else zI op (fS op a/fS op b) (a^^^b))
 else if op=44∨op=45 then(if b=0 then a else zI op (fS op a%fS op b) a)else 0
def ak1(x:Nat):Nat:=Lib.bitLen x
def aoE(op:Int)(a b:Nat):Nat:=
 if op<42∨45<op then 0 else if b=0∨fS op a<fS op b then 2 else 3+ak1 (fS op a)-ak1 (fS op b)
def pT(op:Int)(x:Nat)(h:x<4294967296):fS op x<4294967296:=by unfold fS;split<;>omega
def yJ(op:Int)(x:Nat)(h:x<4294967296)(h0:x≠0):0<fS op x:=by unfold fS;split<;>omega
set_option maxHeartbeats 4000000 in
theorem Bp(op:Int)(x:Nat)(w:World)(hx:x<4294967296):Calls Tryz.prog 197 #[.int .i64 op,.int .u32 x] w λe w'=>e=.returned (.int .u32 (fS op x))∧w=w':=by
 have wx:=xD x hx;have hc:(op=42∧2147483648<=x)∨(op=42∧x<2147483648)∨(op=44∧2147483648<=x)∨(op=44∧x<2147483648)∨(op≠42∧op≠44):=oT;have hs:(2147483648<=x->decide (sgn x<0)=true)∧(x<2147483648->decide (sgn x<0)=false):=by
  unfold sgn;constructor
  ·intro h;rw[dZ oT];simp;omega
  ·intro h;rw[af1 oT];simp
 have hb:=Lib.hid hs;clear hs;rcases hc with ⟨rfl,h⟩|⟨rfl,h⟩|⟨rfl,h⟩|⟨rfl,h⟩|⟨h1,h2⟩
 ·have hd:=hb.out.1 h
  go_enter func197,ntmps197
  go_wp2_with fail
  go_ret
  refine⟨gH ?_,rfl⟩;rw[show fS 42 x=4294967296-x by simp[fS,h]];omega
 ·have hd:=hb.out.2 h
  go_enter func197,ntmps197
  go_wp2_with fail
  go_ret
  refine⟨gH ?_,rfl⟩;rw[show fS 42 x=x by unfold fS;rw[dZ oT]]
 ·have hd:=hb.out.1 h
  go_enter func197,ntmps197
  go_wp2_with fail
  go_ret
  refine⟨gH ?_,rfl⟩;rw[show fS 44 x=4294967296-x by simp[fS,h]];omega
 ·have hd:=hb.out.2 h
  go_enter func197,ntmps197
  go_wp2_with fail
  go_ret
  refine⟨gH ?_,rfl⟩;rw[show fS 44 x=x by unfold fS;rw[dZ oT]]
 ·have m1:(op==(42:Int))=false:=sU h1;have m2:(op==(44:Int))=false:=sU h2;have hv:Hid (fS op x=x):=by show _=_;unfold fS;rw[dZ oT]
  clear h1 h2
  go_enter func197,ntmps197
  go_wp2_with fail
  go_ret
  exact⟨by rw[hv.out];rfl,rfl⟩
def IM(x:Nat)(h:x<4294967296):ak1 x<=32:=Lib.bitLen_le x 32 dT h
def Kz(x y:Nat)(hx:x<4294967296)(hy:y<4294967296)(h:x<=y)(h0:x≠0):ak1 x<=ak1 y:=by
 obtain⟨a1,a2,a3⟩:=Lib.bitLenAux_bounds 64 x (agB hx dT) h0;obtain⟨b1,b2,b3⟩:=Lib.bitLenAux_bounds 64 y (agB hy dT) oT;have h1:2 ^ (Lib.bitLenAux 64 x-1)<2 ^ Lib.bitLenAux 64 y:=bL a2 (bL h b3);have h2:Lib.bitLenAux 64 x-1<Lib.bitLenAux 64 y:=(Nat.pow_lt_pow_iff_right dT).1 h1;show Lib.bitLenAux 64 x<=Lib.bitLenAux 64 y;omega
def Nx(x:Nat)(w:World)(hx:x<4294967296):Calls Tryz.prog 198 #[.int .u32 x] w λe w'=>e=.returned (.int .i64 (ak1 x))∧w=w':=by
 go_enter func198,ntmps198
 go_wp2_with (go_at_call 209;refine(Rt x _ hx).mono ?_;rintro e w' ⟨rfl,rfl⟩)
 go_ret
 exact⟨rfl,rfl⟩
set_option maxHeartbeats 4000000 in
theorem UC(op:Int)(a b:Nat)(w:World)(ha:a<4294967296)(hb:b<4294967296):Calls Tryz.prog 178 #[.int .i64 op,.int .u32 a,.int .u32 b] w λe w'=>e=.returned (.int .i64 (aoE op a b))∧w=w':=by
 by_cases h1:op<42
 ·have hv:Hid (aoE op a b=0):=by show _=_;unfold aoE;rw[af1 (.inl h1)]
  go_enter func178,ntmps178
  go_wp2_with fail
  go_ret
  exact⟨by rw[hv.out];rfl,rfl⟩
 by_cases h2:45<op
 ·have hv:Hid (aoE op a b=0):=by show _=_;unfold aoE;rw[af1 (.inr h2)]
  have d1:decide (op<42)=false:=by simp;omega
  go_enter func178,ntmps178
  go_wp2_with fail
  go_ret
  exact⟨by rw[hv.out];rfl,rfl⟩
 have d1:decide (op<42)=false:=by simp;omega
 have d2:decide (45<op)=false:=by simp;omega
 have ca:=λw=>Bp op a w ha;have cb:=λw=>Bp op b w hb;have la:=pT op a ha;have lb:=pT op b hb;have pb:=yJ op b hb;have hv:aoE op a b=if b=0∨fS op a<fS op b then 2 else 3+ak1 (fS op a)-ak1 (fS op b):=by unfold aoE;rw[dZ oT]
 generalize fS op a=x at *;generalize fS op b=y at *;generalize aoE op a b=t at *;by_cases hb0:b=0
 ·rw[af1 (.inl hb0)]at hv;subst hv hb0
  go_enter func178,ntmps178
  go_wp2_with fail
  refine(ca _).mono ?_;rintro e w' ⟨rfl,rfl⟩
  go_wp2_with fail
  refine(cb _).mono ?_;rintro e w' ⟨rfl,rfl⟩
  go_wp2_with fail
  go_ret
  exact⟨rfl,rfl⟩
 by_cases hxy:x<y
 ·rw[af1 (.inr hxy)]at hv;subst hv;have m1:((b:Int)==0)=false:=by simp;omega
  go_enter func178,ntmps178
  go_wp2_with fail
  refine(ca _).mono ?_;rintro e w' ⟨rfl,rfl⟩
  go_wp2_with fail
  refine(cb _).mono ?_;rintro e w' ⟨rfl,rfl⟩
  go_wp2_with fail
  go_ret
  exact⟨rfl,rfl⟩
 ·rw[dZ oT]at hv;have m1:((b:Int)==0)=false:=by simp;omega
  have m2:decide ((x:Int)<y)=false:=by simp;omega
  have m3:y<=x:=oT;have cx:=λw=>Nx x w la;have cy:=λw=>Nx y w lb;have hy0:=pb hb0;have l1:=IM x la;have l2:=IM y lb;have l3:=Kz y x lb la oT oT;generalize ak1 x=m at *;generalize ak1 y=n at *;have hq:Hid ((2:Int)+m-n+1=(t:Int)):=by show _=_;omega
  clear hv pb hxy
  go_enter func178,ntmps178
  go_wp2_with fail
  refine(ca _).mono ?_;rintro e w' ⟨rfl,rfl⟩
  go_wp2_with fail
  refine(cb _).mono ?_;rintro e w' ⟨rfl,rfl⟩
  go_wp2_with fail
  refine(cx _).mono ?_;rintro e w' ⟨rfl,rfl⟩
  go_wp2_with fail
  refine(cy _).mono ?_;rintro e w' ⟨rfl,rfl⟩
  go_wp2_with fail
  go_ret
  exact⟨by rw[<-hq.out];rfl,rfl⟩
end Go.Proofs.YtffibhgbpgjioaaGreatDoor
