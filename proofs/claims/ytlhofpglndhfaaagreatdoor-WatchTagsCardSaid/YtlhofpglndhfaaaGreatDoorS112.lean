/- Joined texts. -/
import Derived.Lib.ItoaNum
import Derived.Test.YtlhofpglndhfaaaGreatDoorS101
import Derived.Test.YtlhofpglndhfaaaGreatDoorS109
import Derived.Test.YtlhofpglndhfaaaGreatDoorS110
import Derived.Test.YtlhofpglndhfaaaGreatDoorS111
set_option linter.unusedVariables false
set_option linter.unusedSimpArgs false
namespace Go.Proofs.YtlhofpglndhfaaaGreatDoor
open Go.RowKit
def kK(op:Int)(x:Nat):Nat:=if (op=42∨op=44)∧2147483648≤x then 4294967296 - x else x
def AN(op:Int)(s x:Nat):Nat:=if (op=42∨op=44)∧2147483648≤x then (4294967296 - s) % 4294967296 else s
def Ij(op:Int)(a b:Nat):Nat:=
 if op=42∨op=43 then (if b=0 then 4294967295 else AN op (kK op a / kK op b) (a ^^^ b))
 else if op=44∨op=45 then (if b=0 then a else AN op (kK op a % kK op b) a)else 0
def Rj(x:Nat):Nat:=Lib.bitLen x
def yO(op:Int)(a b:Nat):Nat:=
 if op<42∨45<op then 0 else if b=0∨kK op a<kK op b then 2 else 3+Rj (kK op a) - Rj (kK op b)
theorem pP(op:Int)(x:Nat)(h:x<4294967296):kK op x<4294967296:=by unfold kK;split<;>omega
theorem xB(op:Int)(x:Nat)(h:x<4294967296)(h0:x≠0):0<kK op x:=by unfold kK;split<;>omega
set_option maxHeartbeats 4000000 in
theorem Ay(op:Int)(x:Nat)(w:World)(hx:x<4294967296):Calls Tryz.prog 227 #[.int .i64 op,.int .u32 x] w λ e w'=>e=.returned (.int .u32 (kK op x))∧w=w':=by
 have wx:=vY x hx;have hc:(op=42∧2147483648≤x)∨(op=42∧x<2147483648)∨(op=44∧2147483648≤x)∨(op=44∧x<2147483648)∨(op≠42∧op≠44):=by omega
 have hs:(2147483648≤x→decide (sgn x<0)=true)∧(x<2147483648→decide (sgn x<0)=false):=by
  unfold sgn;constructor
  ·intro h;rw[if_neg (by omega)];simp;omega
  ·intro h;rw[if_pos (by omega)];simp
 have hb:=Lib.hid hs;clear hs;rcases hc with ⟨rfl,h⟩|⟨rfl,h⟩|⟨rfl,h⟩|⟨rfl,h⟩|⟨h1,h2⟩
 ·have hd:=hb.out.1 h
  go_enter Tryz.func227,Tryz.ntmps227
  go_wp2_with fail
  go_ret
  refine⟨gE ?_,rfl⟩;rw[show kK 42 x=4294967296 - x by simp[kK,h]];omega
 ·have hd:=hb.out.2 h
  go_enter Tryz.func227,Tryz.ntmps227
  go_wp2_with fail
  go_ret
  refine⟨gE ?_,rfl⟩;rw[show kK 42 x=x by unfold kK;rw[if_neg (by omega)]]
 ·have hd:=hb.out.1 h
  go_enter Tryz.func227,Tryz.ntmps227
  go_wp2_with fail
  go_ret
  refine⟨gE ?_,rfl⟩;rw[show kK 44 x=4294967296 - x by simp[kK,h]];omega
 ·have hd:=hb.out.2 h
  go_enter Tryz.func227,Tryz.ntmps227
  go_wp2_with fail
  go_ret
  refine⟨gE ?_,rfl⟩;rw[show kK 44 x=x by unfold kK;rw[if_neg (by omega)]]
 ·have m1:(op==(42:Int))=false:=by simpa using h1
  have m2:(op==(44:Int))=false:=by simpa using h2
  have hv:Hid (kK op x=x):=by show _=_;unfold kK;rw[if_neg (by omega)]
  clear h1 h2
  go_enter Tryz.func227,Tryz.ntmps227
  go_wp2_with fail
  go_ret
  exact⟨by rw[hv.out];rfl,rfl⟩
theorem PS(x:Nat)(h:x<4294967296):Rj x≤32:=Lib.bitLen_le x 32 (by decide) h
theorem Jq(x y:Nat)(hx:x<4294967296)(hy:y<4294967296)(h:x≤y)(h0:x≠0):Rj x≤Rj y:=by
 obtain⟨a1,a2,a3⟩:=Lib.bitLenAux_bounds 64 x (rU hx (by decide)) h0;obtain⟨b1,b2,b3⟩:=Lib.bitLenAux_bounds 64 y (rU hy (by decide)) (by omega);have h1:2 ^ (Lib.bitLenAux 64 x - 1)<2 ^ Lib.bitLenAux 64 y:=bM a2 (bM h b3);have h2:Lib.bitLenAux 64 x - 1<Lib.bitLenAux 64 y:=(Nat.pow_lt_pow_iff_right (by decide)).1 h1;show Lib.bitLenAux 64 x≤Lib.bitLenAux 64 y;omega
theorem Mh(x:Nat)(w:World)(hx:x<4294967296):Calls Tryz.prog 228 #[.int .u32 x] w λ e w'=>e=.returned (.int .i64 (Rj x))∧w=w':=by
 go_enter Tryz.func228,Tryz.ntmps228
 go_wp2_with (go_at_call 236;refine (PV x _ hx).mono ?_;rintro e w' ⟨rfl,rfl⟩)
 go_ret
 exact⟨rfl,rfl⟩
set_option maxHeartbeats 4000000 in
theorem SP(op:Int)(a b:Nat)(w:World)(ha:a<4294967296)(hb:b<4294967296):Calls Tryz.prog 210 #[.int .i64 op,.int .u32 a,.int .u32 b] w λ e w'=>e=.returned (.int .i64 (yO op a b))∧w=w':=by
 by_cases h1:op<42
 ·have hv:Hid (yO op a b=0):=by show _=_;unfold yO;rw[if_pos (.inl h1)]
  go_enter Tryz.func210,Tryz.ntmps210
  go_wp2_with fail
  go_ret
  exact⟨by rw[hv.out];rfl,rfl⟩
 by_cases h2:45<op
 ·have hv:Hid (yO op a b=0):=by show _=_;unfold yO;rw[if_pos (.inr h2)]
  have d1:decide (op<42)=false:=by simp;omega
  go_enter Tryz.func210,Tryz.ntmps210
  go_wp2_with fail
  go_ret
  exact⟨by rw[hv.out];rfl,rfl⟩
 have d1:decide (op<42)=false:=by simp;omega
 have d2:decide (45<op)=false:=by simp;omega
 have ca:=λ w=>Ay op a w ha;have cb:=λ w=>Ay op b w hb;have la:=pP op a ha;have lb:=pP op b hb;have pb:=xB op b hb;have hv:yO op a b=if b=0∨kK op a<kK op b then 2 else 3+Rj (kK op a) - Rj (kK op b):=by unfold yO;rw[if_neg (by omega)]
 generalize kK op a=x at *;generalize kK op b=y at *;generalize yO op a b=t at *;by_cases hb0:b=0
 ·rw[if_pos (.inl hb0)]at hv;subst hv hb0
  go_enter Tryz.func210,Tryz.ntmps210
  go_wp2_with fail
  refine (ca _).mono ?_;rintro e w' ⟨rfl,rfl⟩
  go_wp2_with fail
  refine (cb _).mono ?_;rintro e w' ⟨rfl,rfl⟩
  go_wp2_with fail
  go_ret
  exact⟨rfl,rfl⟩
 by_cases hxy:x<y
 ·rw[if_pos (.inr hxy)]at hv;subst hv;have m1:((b:Int)==0)=false:=by simp;omega
  go_enter Tryz.func210,Tryz.ntmps210
  go_wp2_with fail
  refine (ca _).mono ?_;rintro e w' ⟨rfl,rfl⟩
  go_wp2_with fail
  refine (cb _).mono ?_;rintro e w' ⟨rfl,rfl⟩
  go_wp2_with fail
  go_ret
  exact⟨rfl,rfl⟩
 ·rw[if_neg (by omega)]at hv;have m1:((b:Int)==0)=false:=by simp;omega
  have m2:decide ((x:Int)<y)=false:=by simp;omega
  have m3:y≤x:=by omega
  have cx:=λ w=>Mh x w la;have cy:=λ w=>Mh y w lb;have hy0:=pb hb0;have l1:=PS x la;have l2:=PS y lb;have l3:=Jq y x lb la (by omega) (by omega);generalize Rj x=m at *;generalize Rj y=n at *;have hq:Hid ((2:Int)+m - n+1=(t:Int)):=by show _=_;omega
  clear hv pb hxy
  go_enter Tryz.func210,Tryz.ntmps210
  go_wp2_with fail
  refine (ca _).mono ?_;rintro e w' ⟨rfl,rfl⟩
  go_wp2_with fail
  refine (cb _).mono ?_;rintro e w' ⟨rfl,rfl⟩
  go_wp2_with fail
  refine (cx _).mono ?_;rintro e w' ⟨rfl,rfl⟩
  go_wp2_with fail
  refine (cy _).mono ?_;rintro e w' ⟨rfl,rfl⟩
  go_wp2_with fail
  go_ret
  exact⟨by rw[←hq.out];rfl,rfl⟩
end Go.Proofs.YtlhofpglndhfaaaGreatDoor
