/- Joined texts. -/
import Derived.Lib.ItoaNum
import Derived.Test.YtgleompefdogkaaGreatDoorS1
import Derived.Test.YtgleompefdogkaaGreatDoorS9
import Derived.Test.YtgleompefdogkaaGreatDoorS10
import Derived.Test.YtgleompefdogkaaGreatDoorS11
set_option linter.unusedVariables false
set_option linter.unusedSimpArgs false
set_option linter.defProp false
namespace Go.Proofs.YtgleompefdogkaaGreatDoor
open Go.RowKit
def kQ(op:Int)(x:Nat):Nat:=if(op=42∨op=44)∧2147483648<=x then 4294967296-x else x
def Bw(op:Int)(s x:Nat):Nat:=if(op=42∨op=44)∧2147483648<=x then(4294967296-s)%4294967296 else s
def IF(op:Int)(a b:Nat):Nat:=
 if op=42∨op=43 then(if b=0 then 4294967295 else Bw op (kQ op a/kQ op b) (a^^^b))
 else if op=44∨op=45 then(if b=0 then a else Bw op (kQ op a%kQ op b) a)else 0
def RB(x:Nat):Nat:=Lib.bitLen x
def pW(op:Int)(a b:Nat):Nat:=
 if op<42∨45<op then 0 else if b=0∨kQ op a<kQ op b then 2 else 3+RB (kQ op a)-RB (kQ op b)
def pX(op:Int)(x:Nat)(h:x<4294967296):kQ op x<4294967296:=by unfold kQ;split<;>omega
def yH(op:Int)(x:Nat)(h:x<4294967296)(h0:x≠0):0<kQ op x:=by unfold kQ;split<;>omega
set_option maxHeartbeats 4000000 in
theorem Bg(op:Int)(x:Nat)(w:World)(hx:x<4294967296):Calls Tryz.prog 166 #[.int .i64 op,.int .u32 x] w λe w'=>e=.returned (.int .u32 (kQ op x))∧w=w':=by
 have wx:=xB x hx;have hc:(op=42∧2147483648<=x)∨(op=42∧x<2147483648)∨(op=44∧2147483648<=x)∨(op=44∧x<2147483648)∨(op≠42∧op≠44):=by omega
 have hs:(2147483648<=x->decide (sgn x<0)=true)∧(x<2147483648->decide (sgn x<0)=false):=by
  unfold sgn;constructor
  ·intro h;rw[if_neg (by omega)];simp;omega
  ·intro h;rw[if_pos (by omega)];simp
 have hb:=Lib.hid hs;clear hs;rcases hc with ⟨rfl,h⟩|⟨rfl,h⟩|⟨rfl,h⟩|⟨rfl,h⟩|⟨h1,h2⟩
 ·have hd:=hb.out.1 h
  go_enter Tryz.func166,Tryz.ntmps166
  go_wp2_with fail
  go_ret
  refine⟨gE ?_,rfl⟩;rw[show kQ 42 x=4294967296-x by simp[kQ,h]];omega
 ·have hd:=hb.out.2 h
  go_enter Tryz.func166,Tryz.ntmps166
  go_wp2_with fail
  go_ret
  refine⟨gE ?_,rfl⟩;rw[show kQ 42 x=x by unfold kQ;rw[if_neg (by omega)]]
 ·have hd:=hb.out.1 h
  go_enter Tryz.func166,Tryz.ntmps166
  go_wp2_with fail
  go_ret
  refine⟨gE ?_,rfl⟩;rw[show kQ 44 x=4294967296-x by simp[kQ,h]];omega
 ·have hd:=hb.out.2 h
  go_enter Tryz.func166,Tryz.ntmps166
  go_wp2_with fail
  go_ret
  refine⟨gE ?_,rfl⟩;rw[show kQ 44 x=x by unfold kQ;rw[if_neg (by omega)]]
 ·have m1:(op==(42:Int))=false:=by simpa using h1
  have m2:(op==(44:Int))=false:=by simpa using h2
  have hv:Hid (kQ op x=x):=by show _=_;unfold kQ;rw[if_neg (by omega)]
  clear h1 h2
  go_enter Tryz.func166,Tryz.ntmps166
  go_wp2_with fail
  go_ret
  exact⟨by rw[hv.out];rfl,rfl⟩
def Qs(x:Nat)(h:x<4294967296):RB x<=32:=Lib.bitLen_le x 32 (by decide) h
def JI(x y:Nat)(hx:x<4294967296)(hy:y<4294967296)(h:x<=y)(h0:x≠0):RB x<=RB y:=by
 obtain⟨a1,a2,a3⟩:=Lib.bitLenAux_bounds 64 x (sZ hx (by decide)) h0;obtain⟨b1,b2,b3⟩:=Lib.bitLenAux_bounds 64 y (sZ hy (by decide)) (by omega);have h1:2 ^ (Lib.bitLenAux 64 x-1)<2 ^ Lib.bitLenAux 64 y:=bM a2 (bM h b3);have h2:Lib.bitLenAux 64 x-1<Lib.bitLenAux 64 y:=(Nat.pow_lt_pow_iff_right (by decide)).1 h1;show Lib.bitLenAux 64 x<=Lib.bitLenAux 64 y;omega
def MM(x:Nat)(w:World)(hx:x<4294967296):Calls Tryz.prog 167 #[.int .u32 x] w λe w'=>e=.returned (.int .i64 (RB x))∧w=w':=by
 go_enter Tryz.func167,Tryz.ntmps167
 go_wp2_with (go_at_call 181;refine(Qv x _ hx).mono ?_;rintro e w' ⟨rfl,rfl⟩)
 go_ret
 exact⟨rfl,rfl⟩
set_option maxHeartbeats 4000000 in
theorem Tj(op:Int)(a b:Nat)(w:World)(ha:a<4294967296)(hb:b<4294967296):Calls Tryz.prog 146 #[.int .i64 op,.int .u32 a,.int .u32 b] w λe w'=>e=.returned (.int .i64 (pW op a b))∧w=w':=by
 by_cases h1:op<42
 ·have hv:Hid (pW op a b=0):=by show _=_;unfold pW;rw[if_pos (.inl h1)]
  go_enter Tryz.func146,Tryz.ntmps146
  go_wp2_with fail
  go_ret
  exact⟨by rw[hv.out];rfl,rfl⟩
 by_cases h2:45<op
 ·have hv:Hid (pW op a b=0):=by show _=_;unfold pW;rw[if_pos (.inr h2)]
  have d1:decide (op<42)=false:=by simp;omega
  go_enter Tryz.func146,Tryz.ntmps146
  go_wp2_with fail
  go_ret
  exact⟨by rw[hv.out];rfl,rfl⟩
 have d1:decide (op<42)=false:=by simp;omega
 have d2:decide (45<op)=false:=by simp;omega
 have ca:=λw=>Bg op a w ha;have cb:=λw=>Bg op b w hb;have la:=pX op a ha;have lb:=pX op b hb;have pb:=yH op b hb;have hv:pW op a b=if b=0∨kQ op a<kQ op b then 2 else 3+RB (kQ op a)-RB (kQ op b):=by unfold pW;rw[if_neg (by omega)]
 generalize kQ op a=x at *;generalize kQ op b=y at *;generalize pW op a b=t at *;by_cases hb0:b=0
 ·rw[if_pos (.inl hb0)]at hv;subst hv hb0
  go_enter Tryz.func146,Tryz.ntmps146
  go_wp2_with fail
  refine(ca _).mono ?_;rintro e w' ⟨rfl,rfl⟩
  go_wp2_with fail
  refine(cb _).mono ?_;rintro e w' ⟨rfl,rfl⟩
  go_wp2_with fail
  go_ret
  exact⟨rfl,rfl⟩
 by_cases hxy:x<y
 ·rw[if_pos (.inr hxy)]at hv;subst hv;have m1:((b:Int)==0)=false:=by simp;omega
  go_enter Tryz.func146,Tryz.ntmps146
  go_wp2_with fail
  refine(ca _).mono ?_;rintro e w' ⟨rfl,rfl⟩
  go_wp2_with fail
  refine(cb _).mono ?_;rintro e w' ⟨rfl,rfl⟩
  go_wp2_with fail
  go_ret
  exact⟨rfl,rfl⟩
 ·rw[if_neg (by omega)]at hv;have m1:((b:Int)==0)=false:=by simp;omega
  have m2:decide ((x:Int)<y)=false:=by simp;omega
  have m3:y<=x:=by omega
  have cx:=λw=>MM x w la;have cy:=λw=>MM y w lb;have hy0:=pb hb0;have l1:=Qs x la;have l2:=Qs y lb;have l3:=JI y x lb la (by omega) (by omega);generalize RB x=m at *;generalize RB y=n at *;have hq:Hid ((2:Int)+m-n+1=(t:Int)):=by show _=_;omega
  clear hv pb hxy
  go_enter Tryz.func146,Tryz.ntmps146
  go_wp2_with fail
  refine(ca _).mono ?_;rintro e w' ⟨rfl,rfl⟩
  go_wp2_with fail
  refine(cb _).mono ?_;rintro e w' ⟨rfl,rfl⟩
  go_wp2_with fail
  refine(cx _).mono ?_;rintro e w' ⟨rfl,rfl⟩
  go_wp2_with fail
  refine(cy _).mono ?_;rintro e w' ⟨rfl,rfl⟩
  go_wp2_with fail
  go_ret
  exact⟨by rw[<-hq.out];rfl,rfl⟩
end Go.Proofs.YtgleompefdogkaaGreatDoor
