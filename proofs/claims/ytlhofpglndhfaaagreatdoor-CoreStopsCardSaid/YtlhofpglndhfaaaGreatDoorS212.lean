/- Joined texts. -/
import Derived.Lib.ItoaNum
import Derived.Test.YtlhofpglndhfaaaGreatDoorS201
import Derived.Test.YtlhofpglndhfaaaGreatDoorS209
import Derived.Test.YtlhofpglndhfaaaGreatDoorS210
import Derived.Test.YtlhofpglndhfaaaGreatDoorS211
set_option linter.unusedVariables false
set_option linter.unusedSimpArgs false
namespace Go.Proofs.YtlhofpglndhfaaaGreatDoor
open Go.RowKit
def kL(op:Int)(x:Nat):Nat:=if (op=42∨op=44)∧2147483648≤x then 4294967296 - x else x
def Bf(op:Int)(s x:Nat):Nat:=if (op=42∨op=44)∧2147483648≤x then (4294967296 - s) % 4294967296 else s
def IC(op:Int)(a b:Nat):Nat:=
 if op=42∨op=43 then (if b=0 then 4294967295 else Bf op (kL op a / kL op b) (a ^^^ b))
 else if op=44∨op=45 then (if b=0 then a else Bf op (kL op a % kL op b) a)else 0
def RC(x:Nat):Nat:=Lib.bitLen x
def zF(op:Int)(a b:Nat):Nat:=
 if op<42∨45<op then 0 else if b=0∨kL op a<kL op b then 2 else 3+RC (kL op a) - RC (kL op b)
theorem pR(op:Int)(x:Nat)(h:x<4294967296):kL op x<4294967296:=by unfold kL;split<;>omega
theorem xQ(op:Int)(x:Nat)(h:x<4294967296)(h0:x≠0):0<kL op x:=by unfold kL;split<;>omega
set_option maxHeartbeats 4000000 in
theorem AQ(op:Int)(x:Nat)(w:World)(hx:x<4294967296):Calls Tryz.prog 227 #[.int .i64 op,.int .u32 x] w λ e w'=>e=.returned (.int .u32 (kL op x))∧w=w':=by
 have wx:=wF x hx;have hc:(op=42∧2147483648≤x)∨(op=42∧x<2147483648)∨(op=44∧2147483648≤x)∨(op=44∧x<2147483648)∨(op≠42∧op≠44):=by omega
 have hs:(2147483648≤x→decide (sgn x<0)=true)∧(x<2147483648→decide (sgn x<0)=false):=by
  unfold sgn;constructor
  ·intro h;rw[if_neg (by omega)];simp;omega
  ·intro h;rw[if_pos (by omega)];simp
 have hb:=Lib.hid hs;clear hs;rcases hc with ⟨rfl,h⟩|⟨rfl,h⟩|⟨rfl,h⟩|⟨rfl,h⟩|⟨h1,h2⟩
 ·have hd:=hb.out.1 h
  go_enter Tryz.func227,Tryz.ntmps227
  go_wp2_with fail
  go_ret
  refine⟨gJ ?_,rfl⟩;rw[show kL 42 x=4294967296 - x by simp[kL,h]];omega
 ·have hd:=hb.out.2 h
  go_enter Tryz.func227,Tryz.ntmps227
  go_wp2_with fail
  go_ret
  refine⟨gJ ?_,rfl⟩;rw[show kL 42 x=x by unfold kL;rw[if_neg (by omega)]]
 ·have hd:=hb.out.1 h
  go_enter Tryz.func227,Tryz.ntmps227
  go_wp2_with fail
  go_ret
  refine⟨gJ ?_,rfl⟩;rw[show kL 44 x=4294967296 - x by simp[kL,h]];omega
 ·have hd:=hb.out.2 h
  go_enter Tryz.func227,Tryz.ntmps227
  go_wp2_with fail
  go_ret
  refine⟨gJ ?_,rfl⟩;rw[show kL 44 x=x by unfold kL;rw[if_neg (by omega)]]
 ·have m1:(op==(42:Int))=false:=by simpa using h1
  have m2:(op==(44:Int))=false:=by simpa using h2
  have hv:Hid (kL op x=x):=by show _=_;unfold kL;rw[if_neg (by omega)]
  clear h1 h2
  go_enter Tryz.func227,Tryz.ntmps227
  go_wp2_with fail
  go_ret
  exact⟨by rw[hv.out];rfl,rfl⟩
theorem Ql(x:Nat)(h:x<4294967296):RC x≤32:=Lib.bitLen_le x 32 (by decide) h
theorem JC(x y:Nat)(hx:x<4294967296)(hy:y<4294967296)(h:x≤y)(h0:x≠0):RC x≤RC y:=by
 obtain⟨a1,a2,a3⟩:=Lib.bitLenAux_bounds 64 x (sH hx (by decide)) h0;obtain⟨b1,b2,b3⟩:=Lib.bitLenAux_bounds 64 y (sH hy (by decide)) (by omega);have h1:2 ^ (Lib.bitLenAux 64 x - 1)<2 ^ Lib.bitLenAux 64 y:=bI a2 (bI h b3);have h2:Lib.bitLenAux 64 x - 1<Lib.bitLenAux 64 y:=(Nat.pow_lt_pow_iff_right (by decide)).1 h1;show Lib.bitLenAux 64 x≤Lib.bitLenAux 64 y;omega
theorem MD(x:Nat)(w:World)(hx:x<4294967296):Calls Tryz.prog 228 #[.int .u32 x] w λ e w'=>e=.returned (.int .i64 (RC x))∧w=w':=by
 go_enter Tryz.func228,Tryz.ntmps228
 go_wp2_with (go_at_call 236;refine (Qo x _ hx).mono ?_;rintro e w' ⟨rfl,rfl⟩)
 go_ret
 exact⟨rfl,rfl⟩
set_option maxHeartbeats 4000000 in
theorem Tb(op:Int)(a b:Nat)(w:World)(ha:a<4294967296)(hb:b<4294967296):Calls Tryz.prog 210 #[.int .i64 op,.int .u32 a,.int .u32 b] w λ e w'=>e=.returned (.int .i64 (zF op a b))∧w=w':=by
 by_cases h1:op<42
 ·have hv:Hid (zF op a b=0):=by show _=_;unfold zF;rw[if_pos (.inl h1)]
  go_enter Tryz.func210,Tryz.ntmps210
  go_wp2_with fail
  go_ret
  exact⟨by rw[hv.out];rfl,rfl⟩
 by_cases h2:45<op
 ·have hv:Hid (zF op a b=0):=by show _=_;unfold zF;rw[if_pos (.inr h2)]
  have d1:decide (op<42)=false:=by simp;omega
  go_enter Tryz.func210,Tryz.ntmps210
  go_wp2_with fail
  go_ret
  exact⟨by rw[hv.out];rfl,rfl⟩
 have d1:decide (op<42)=false:=by simp;omega
 have d2:decide (45<op)=false:=by simp;omega
 have ca:=λ w=>AQ op a w ha;have cb:=λ w=>AQ op b w hb;have la:=pR op a ha;have lb:=pR op b hb;have pb:=xQ op b hb;have hv:zF op a b=if b=0∨kL op a<kL op b then 2 else 3+RC (kL op a) - RC (kL op b):=by unfold zF;rw[if_neg (by omega)]
 generalize kL op a=x at *;generalize kL op b=y at *;generalize zF op a b=t at *;by_cases hb0:b=0
 ·rw[if_pos (.inl hb0)]at hv;subst hv hb0
  go_enter Tryz.func210,Tryz.ntmps210
  go_wp2_with fail
  refine (ca _).mono ?_;rintro e w' ⟨rfl,rfl⟩
  go_wp2_with fail
  refine (cb _).mono ?_;rintro e w' ⟨rfl,rfl⟩
  go_wp2_with fail
  go_ret
  exact⟨rfl,rfl⟩
 by_cases hxy:x<y
 ·rw[if_pos (.inr hxy)]at hv;subst hv;have m1:((b:Int)==0)=false:=by simp;omega
  go_enter Tryz.func210,Tryz.ntmps210
  go_wp2_with fail
  refine (ca _).mono ?_;rintro e w' ⟨rfl,rfl⟩
  go_wp2_with fail
  refine (cb _).mono ?_;rintro e w' ⟨rfl,rfl⟩
  go_wp2_with fail
  go_ret
  exact⟨rfl,rfl⟩
 ·rw[if_neg (by omega)]at hv;have m1:((b:Int)==0)=false:=by simp;omega
  have m2:decide ((x:Int)<y)=false:=by simp;omega
  have m3:y≤x:=by omega
  have cx:=λ w=>MD x w la;have cy:=λ w=>MD y w lb;have hy0:=pb hb0;have l1:=Ql x la;have l2:=Ql y lb;have l3:=JC y x lb la (by omega) (by omega);generalize RC x=m at *;generalize RC y=n at *;have hq:Hid ((2:Int)+m - n+1=(t:Int)):=by show _=_;omega
  clear hv pb hxy
  go_enter Tryz.func210,Tryz.ntmps210
  go_wp2_with fail
  refine (ca _).mono ?_;rintro e w' ⟨rfl,rfl⟩
  go_wp2_with fail
  refine (cb _).mono ?_;rintro e w' ⟨rfl,rfl⟩
  go_wp2_with fail
  refine (cx _).mono ?_;rintro e w' ⟨rfl,rfl⟩
  go_wp2_with fail
  refine (cy _).mono ?_;rintro e w' ⟨rfl,rfl⟩
  go_wp2_with fail
  go_ret
  exact⟨by rw[←hq.out];rfl,rfl⟩
end Go.Proofs.YtlhofpglndhfaaaGreatDoor
