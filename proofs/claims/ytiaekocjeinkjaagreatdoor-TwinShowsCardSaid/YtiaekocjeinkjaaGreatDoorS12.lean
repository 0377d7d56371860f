import Derived.Lib.ItoaNum
import Derived.Test.YtiaekocjeinkjaaGreatDoorS9
import Derived.Test.YtiaekocjeinkjaaGreatDoorS10
import Derived.Test.YtiaekocjeinkjaaGreatDoorS11
set_option linter.all false
namespace Go.Proofs.YtiaekocjeinkjaaGreatDoor
open Go.Proofs.Tryz
open Go.RowKit
def cd(a:Int)(x:Nat):Nat:=if(a=42\/a=44)/\2147483648<=x then 4294967296-x else x
def zI(a:Int)(s x:Nat):Nat:=if(a=42\/a=44)/\2147483648<=x then(4294967296-s)%4294967296 else s
def ek(c:Int)(a b:Nat):Nat:=
 if c=42\/c=43 then(if b=0 then 4294967295 else zI c (cd c a/cd c b) (a^^^b))
 else if c=44\/c=45 then(if b=0 then a else zI c (cd c a%cd c b) a)else 0
def hF(x:Nat):Nat:=Lib.bitLen x
def e8(c:Int)(a b:Nat):Nat:=
 if c<42\/45<c then 0 else if b=0\/cd c a<cd c b then 2 else 3+hF (cd c a)-hF (cd c b)
def pT(a:Int)(x:Nat)(h:x<4294967296):cd a x<4294967296:=by unfold cd;split<;>omega
def yJ(a:Int)(x:Nat)(h:x<4294967296)(b:x≠0):0<cd a x:=by unfold cd;split<;>omega
set_option maxHeartbeats 4000000 in
theorem Bp(op:Int)(x:Nat)(w:World)(hx:x<4294967296):Calls Tryz.prog 235 #[.int .i64 op,.int .u32 x] w λe w'=>e=.returned (.int .u32 (cd op x))/\w=w':=by
 have wx:=xD x hx;have hc:(op=42/\2147483648<=x)\/(op=42/\x<2147483648)\/(op=44/\2147483648<=x)\/(op=44/\x<2147483648)\/(op≠42/\op≠44):=oT;have hs:(2147483648<=x->decide (bw x<0)=true)/\(x<2147483648->decide (bw x<0)=false):=by
  unfold bw;constructor
  .intro h;rw[dZ oT];simp;omega
  .intro h;rw[aa oT];simp
 have hb:=Lib.hid hs;clear hs;rcases hc with ⟨rfl,h⟩|⟨rfl,h⟩|⟨rfl,h⟩|⟨rfl,h⟩|⟨h1,h2⟩
 .have hd:=hb.out.1 h
  go_enter func235,ntmps235
  go_wp2_with fail
  go_ret
  refine⟨gH ?_,R⟩;rw[show cd 42 x=4294967296-x by simp[cd,h]];omega
 .have hd:=hb.out.2 h
  go_enter func235,ntmps235
  go_wp2_with fail
  go_ret
  refine⟨gH ?_,R⟩;rw[show cd 42 x=x by unfold cd;rw[dZ oT]]
 .have hd:=hb.out.1 h
  go_enter func235,ntmps235
  go_wp2_with fail
  go_ret
  refine⟨gH ?_,R⟩;rw[show cd 44 x=4294967296-x by simp[cd,h]];omega
 .have hd:=hb.out.2 h
  go_enter func235,ntmps235
  go_wp2_with fail
  go_ret
  refine⟨gH ?_,R⟩;rw[show cd 44 x=x by unfold cd;rw[dZ oT]]
 .have m1:(op==(42:Int))=false:=sU h1;have m2:(op==(44:Int))=false:=sU h2;have hv:Hid (cd op x=x):=by show _=_;unfold cd;rw[dZ oT]
  clear h1 h2
  go_enter func235,ntmps235
  go_wp2_with fail
  go_ret
  exact⟨by rw[hv.out];rfl,R⟩
def IM(x:Nat)(h:x<4294967296):hF x<=32:=Lib.bitLen_le x 32 dT h
def Kz(x y:Nat)(e:x<4294967296)(f:y<4294967296)(h:x<=y)(c:x≠0):hF x<=hF y:=by
 obtain⟨g,a,i⟩:=Lib.bitLenAux_bounds 64 x (oe e dT) c;obtain⟨j,k,b⟩:=Lib.bitLenAux_bounds 64 y (oe f dT) oT;have d:2 ^ (Lib.bitLenAux 64 x-1)<2 ^ Lib.bitLenAux 64 y:=bL a (bL h b);have l:Lib.bitLenAux 64 x-1<Lib.bitLenAux 64 y:=(Nat.pow_lt_pow_iff_right dT).1 d;show Lib.bitLenAux 64 x<=Lib.bitLenAux 64 y;omega
def Nx(x:Nat)(w:World)(hx:x<4294967296):Calls Tryz.prog 236 #[.int .u32 x] w λe w'=>e=.returned (.int .i64 (hF x))/\w=w':=by
 go_enter func236,ntmps236
 go_wp2_with (go_at_call 248;refine(Rt x _ hx).mono ?_;rintro e w' ⟨rfl,rfl⟩)
 go_ret
 exact⟨R,R⟩
set_option maxHeartbeats 4000000 in
theorem UC(op:Int)(a b:Nat)(w:World)(ha:a<4294967296)(hb:b<4294967296):Calls Tryz.prog 214 #[.int .i64 op,.int .u32 a,.int .u32 b] w λe w'=>e=.returned (.int .i64 (e8 op a b))/\w=w':=by
 by_cases h1:op<42
 .have hv:Hid (e8 op a b=0):=by show _=_;unfold e8;rw[aa (.inl h1)]
  go_enter func214,ntmps214
  go_wp2_with fail
  go_ret
  exact⟨by rw[hv.out];rfl,R⟩
 by_cases h2:45<op
 .have hv:Hid (e8 op a b=0):=by show _=_;unfold e8;rw[aa (.inr h2)]
  have d1:decide (op<42)=false:=by simp;omega
  go_enter func214,ntmps214
  go_wp2_with fail
  go_ret
  exact⟨by rw[hv.out];rfl,R⟩
 have d1:decide (op<42)=false:=by simp;omega
 have d2:decide (45<op)=false:=by simp;omega
 have ca:=λw=>Bp op a w ha;have cb:=λw=>Bp op b w hb;have la:=pT op a ha;have lb:=pT op b hb;have pb:=yJ op b hb;have hv:e8 op a b=if b=0\/cd op a<cd op b then 2 else 3+hF (cd op a)-hF (cd op b):=by unfold e8;rw[dZ oT]
 generalize cd op a=x at *;generalize cd op b=y at *;generalize e8 op a b=t at *;by_cases hb0:b=0
 .rw[aa (.inl hb0)]at hv;subst hv hb0
  go_enter func214,ntmps214
  go_wp2_with fail
  refine(ca _).mono ?_;rintro e w' ⟨rfl,rfl⟩
  go_wp2_with fail
  refine(cb _).mono ?_;rintro e w' ⟨rfl,rfl⟩
  go_wp2_with fail
  go_ret
  exact⟨R,R⟩
 by_cases hxy:x<y
 .rw[aa (.inr hxy)]at hv;subst hv;have m1:((b:Int)==0)=false:=by simp;omega
  go_enter func214,ntmps214
  go_wp2_with fail
  refine(ca _).mono ?_;rintro e w' ⟨rfl,rfl⟩
  go_wp2_with fail
  refine(cb _).mono ?_;rintro e w' ⟨rfl,rfl⟩
  go_wp2_with fail
  go_ret
  exact⟨R,R⟩
 .rw[dZ oT]at hv;have m1:((b:Int)==0)=false:=by simp;omega
  have m2:decide ((x:Int)<y)=false:=by simp;omega
  have m3:y<=x:=oT;have cx:=λw=>Nx x w la;have cy:=λw=>Nx y w lb;have hy0:=pb hb0;have l1:=IM x la;have l2:=IM y lb;have l3:=Kz y x lb la oT oT;generalize hF x=m at *;generalize hF y=n at *;have hq:Hid ((2:Int)+m-n+1=(t:Int)):=by show _=_;omega
  clear hv pb hxy
  go_enter func214,ntmps214
  go_wp2_with fail
  refine(ca _).mono ?_;rintro e w' ⟨rfl,rfl⟩
  go_wp2_with fail
  refine(cb _).mono ?_;rintro e w' ⟨rfl,rfl⟩
  go_wp2_with fail
  refine(cx _).mono ?_;rintro e w' ⟨rfl,rfl⟩
  go_wp2_with fail
  refine(cy _).mono ?_;rintro e w' ⟨rfl,rfl⟩
  go_wp2_with fail
  go_ret
  exact⟨by rw[<-hq.out];rfl,R⟩
end Go.Proofs.YtiaekocjeinkjaaGreatDoor
