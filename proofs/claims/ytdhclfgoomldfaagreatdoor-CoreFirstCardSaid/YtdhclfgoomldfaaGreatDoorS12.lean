/- Lemmas. -/
import Derived.Lib.ItoaNum
import Derived.Test.YtdhclfgoomldfaaGreatDoorS1
import Derived.Test.YtdhclfgoomldfaaGreatDoorS9
import Derived.Test.YtdhclfgoomldfaaGreatDoorS10
import Derived.Test.YtdhclfgoomldfaaGreatDoorS11
set_option linter.all false
namespace Go.Proofs.YtdhclfgoomldfaaGreatDoor
open Go.Proofs.Tryz
open Go.RowKit
def b_(a:Int)(x:Nat):Nat:=if(a=42∨a=44)∧2147483648<=x then 4294967296-x else x
def zI(a:Int)(s x:Nat):Nat:=if(a=42∨a=44)∧2147483648<=x then(4294967296-s)%4294967296 else s
def eg(c:Int)(a b:Nat):Nat:=
 if c=42∨c=43 then(if b=0 then 4294967295 else zI c (b_ c a/b_ c b) (a^^^b))
 else if c=44∨c=45 then(if b=0 then a else zI c (b_ c a%b_ c b) a)else 0
def g0(x:Nat):Nat:=Lib.bitLen x
def eu(c:Int)(a b:Nat):Nat:=
 if c<42∨45<c then 0 else if b=0∨b_ c a<b_ c b then 2 else 3+g0 (b_ c a)-g0 (b_ c b)
def pT(a)(x)(h:x<4294967296):b_ a x<4294967296:=by unfold b_;split<;>omega
def yJ(a)(x)(h:x<4294967296)(b:x≠0):0<b_ a x:=by unfold b_;split<;>omega
set_option maxHeartbeats 4000000 in
theorem Bp(op)(x:Nat)(w)(hx:x<4294967296):Calls Tryz.prog 181 #[.int .i64 op,.int .u32 x] w λe w'=>e=.returned (.int .u32 (b_ op x))∧w=w':=by
 have wx:=xD x hx;have hc:(op=42∧2147483648<=x)∨(op=42∧x<2147483648)∨(op=44∧2147483648<=x)∨(op=44∧x<2147483648)∨(op≠42∧op≠44):=oT;have hs:(2147483648<=x->decide (bs x<0)=true)∧(x<2147483648->decide (bs x<0)=false):=by
  unfold bs;constructor
  ·intro h;rw[dZ oT];simp;omega
  ·intro h;rw[aa oT];simp
 have hb:=Lib.hid hs;clear hs;rcases hc with ⟨rfl,h⟩|⟨rfl,h⟩|⟨rfl,h⟩|⟨rfl,h⟩|⟨h1,h2⟩
 ·have hd:=hb.out.1 h
  go_enter func181,ntmps181
  go_wp2_with fail
  go_ret
  refine⟨gH ?_,rfl⟩;rw[show b_ 42 x=4294967296-x by simp[b_,h]];omega
 ·have hd:=hb.out.2 h
  go_enter func181,ntmps181
  go_wp2_with fail
  go_ret
  refine⟨gH ?_,rfl⟩;rw[show b_ 42 x=x by unfold b_;rw[dZ oT]]
 ·have hd:=hb.out.1 h
  go_enter func181,ntmps181
  go_wp2_with fail
  go_ret
  refine⟨gH ?_,rfl⟩;rw[show b_ 44 x=4294967296-x by simp[b_,h]];omega
 ·have hd:=hb.out.2 h
  go_enter func181,ntmps181
  go_wp2_with fail
  go_ret
  refine⟨gH ?_,rfl⟩;rw[show b_ 44 x=x by unfold b_;rw[dZ oT]]
 ·have m1:(op==(42:Int))=false:=sU h1;have m2:(op==(44:Int))=false:=sU h2;have hv:Hid (b_ op x=x):=by show _=_;unfold b_;rw[dZ oT]
  clear h1 h2
  go_enter func181,ntmps181
  go_wp2_with fail
  go_ret
  exact⟨by rw[hv.out];rfl,rfl⟩
def IM(x:Nat)(h:x<4294967296):g0 x<=32:=Lib.bitLen_le x 32 dT h
def L9(x:Nat)(h:x<4294967296)(a:x≠0):1<=g0 x:=(Lib.bitLenAux_bounds 64 x (mn h dT) a).1
def Kz(x y)(d:x<4294967296)(e:y<4294967296)(h:x<=y)(c:x≠0):g0 x<=g0 y:=by
 let⟨f,a,g⟩:=Lib.bitLenAux_bounds 64 x (mn d dT) c;let⟨i,j,b⟩:=Lib.bitLenAux_bounds 64 y (mn e dT) oT;have k:Lib.bitLenAux 64 x-1<Lib.bitLenAux 64 y:=(Nat.pow_lt_pow_iff_right dT).1 (bL a (bL h b));show Lib.bitLenAux 64 x<=Lib.bitLenAux 64 y;omega
def w7(x:Nat)(w)(hx:x<4294967296):Calls Tryz.prog 182 #[.int .u32 x] w λe w'=>e=.returned (.int .i64 (g0 x))∧w=w':=by
 go_enter func182,ntmps182
 go_wp2_with (go_at_call 193;refine(Rt x _ hx).mono ?_;rintro e w' ⟨rfl,rfl⟩)
 go_ret
 exact⟨rfl,rfl⟩
def Kx(c:Int)(a b:Nat)(f:a<4294967296)(d:b<4294967296)(i:42<=c)(j:c<=45):2<=eu c a b∧eu c a b<=34:=by
 unfold eu;rw[dZ oT];by_cases e:b=0∨b_ c a<b_ c b
 ·rw[aa e];omega
 rw[dZ e];have g:b≠0:=λh=>e (.inl h);have p:=yJ c b d g;have k:=IM _ (pT c a f);have l:=L9 _ (pT c b d) oT;have m:=Kz _ _ (pT c b d) (pT c a f) oT oT;omega
set_option maxHeartbeats 4000000 in
theorem UC(op)(a b:Nat)(w)(ha:a<4294967296)(hb:b<4294967296):Calls Tryz.prog 163 #[.int .i64 op,.int .u32 a,.int .u32 b] w λe w'=>e=.returned (.int .i64 (eu op a b))∧w=w':=by
 by_cases h1:op<42
 ·have hv:Hid (eu op a b=0):=by show _=_;unfold eu;rw[aa (.inl h1)]
  go_enter func163,ntmps163
  go_wp2_with fail
  go_ret
  exact⟨by rw[hv.out];rfl,rfl⟩
 by_cases h2:45<op
 ·have hv:Hid (eu op a b=0):=by show _=_;unfold eu;rw[aa (.inr h2)]
  have d1:decide (op<42)=false:=by simp;omega
  go_enter func163,ntmps163
  go_wp2_with fail
  go_ret
  exact⟨by rw[hv.out];rfl,rfl⟩
 have d1:decide (op<42)=false:=by simp;omega
 have d2:decide (45<op)=false:=by simp;omega
 have ca:=λw=>Bp op a w ha;have cb:=λw=>Bp op b w hb;have la:=pT op a ha;have lb:=pT op b hb;have pb:=yJ op b hb;have hv:eu op a b=if b=0∨b_ op a<b_ op b then 2 else 3+g0 (b_ op a)-g0 (b_ op b):=by unfold eu;rw[dZ oT]
 generalize b_ op a=x at *;generalize b_ op b=y at *;generalize eu op a b=t at *;by_cases hb0:b=0
 ·rw[aa (.inl hb0)]at hv;subst hv hb0
  go_enter func163,ntmps163
  go_wp2_with fail
  apply(ca _).mono;rintro e w' ⟨rfl,rfl⟩
  go_wp2_with fail
  apply(cb _).mono;rintro e w' ⟨rfl,rfl⟩
  go_wp2_with fail
  go_ret
  exact⟨rfl,rfl⟩
 by_cases hxy:x<y
 ·rw[aa (.inr hxy)]at hv;subst hv;have m1:((b:Int)==0)=false:=by simp;omega
  go_enter func163,ntmps163
  go_wp2_with fail
  apply(ca _).mono;rintro e w' ⟨rfl,rfl⟩
  go_wp2_with fail
  apply(cb _).mono;rintro e w' ⟨rfl,rfl⟩
  go_wp2_with fail
  go_ret
  exact⟨rfl,rfl⟩
 ·rw[dZ oT]at hv;have m1:((b:Int)==0)=false:=by simp;omega
  have m2:decide ((x:Int)<y)=false:=by simp;omega
  have m3:y<=x:=oT;have cx:=λw=>w7 x w la;have cy:=λw=>w7 y w lb;have hy0:=pb hb0;have l1:=IM x la;have l2:=IM y lb;have l3:=Kz y x lb la oT oT;generalize g0 x=m at *;generalize g0 y=n at *;have hq:Hid ((2:Int)+m-n+1=(t:Int)):=by show _=_;omega
  clear hv pb hxy
  go_enter func163,ntmps163
  go_wp2_with fail
  apply(ca _).mono;rintro e w' ⟨rfl,rfl⟩
  go_wp2_with fail
  apply(cb _).mono;rintro e w' ⟨rfl,rfl⟩
  go_wp2_with fail
  apply(cx _).mono;rintro e w' ⟨rfl,rfl⟩
  go_wp2_with fail
  apply(cy _).mono;rintro e w' ⟨rfl,rfl⟩
  go_wp2_with fail
  go_ret
  exact⟨by rw[<-hq.out];rfl,rfl⟩
end Go.Proofs.YtdhclfgoomldfaaGreatDoor
