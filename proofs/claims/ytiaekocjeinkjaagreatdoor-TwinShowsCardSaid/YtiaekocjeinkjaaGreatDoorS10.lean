import Derived.Test.YtiaekocjeinkjaaGreatDoorProg
import Derived.Lib.Strings
import Derived.Lib.Slices
import Derived.Lib.Small
import Derived.Lib.Walk
import Derived.Lib.BitFns
import Derived.Test.YtiaekocjeinkjaaGreatDoorS1
set_option linter.all false
namespace Go.Proofs.YtiaekocjeinkjaaGreatDoor
open Go.Proofs.Tryz
set_option maxHeartbeats 4000000 in
set_option maxRecDepth 100000 in
theorem Rs(x:Int)(w:World)(h0:0<=x)(h1:x<=4294967295):
    Calls Tryz.prog 248 #[.int .u32 x] w λe w'=>e=.returned (.int .i64 (Lib.bitLen x.toNat))/\w'=w:=by
  go_enter func248,ntmps248
  go_wp2
  all_goals (go_ret;refine⟨am Ending.returned (am (Value.int IntKind.i64) ?_),R⟩)
  all_goals first
    | (rw[Lib.len8_of (x/65536/256%256) oT oT]
       have e:(x/65536/256%256).toNat=x.toNat/16777216:=oT;have l:=Lib.bitLen_le8' (x/65536/256%256) oT oT;have s:=Lib.bitLen_shift24 x.toNat oT oT;rw[e]at l⊢
       omega)
    | (rw[Lib.len8_of (x/65536%256) oT oT]
       have e:(x/65536%256).toNat=x.toNat/65536:=oT;have l:=Lib.bitLen_le8' (x/65536%256) oT oT;have s:=Lib.bitLen_shift16 x.toNat oT oT;rw[e]at l⊢
       omega)
    | (rw[Lib.len8_of (x/256%256) oT oT]
       have e:(x/256%256).toNat=x.toNat/256:=oT;have l:=Lib.bitLen_le8' (x/256%256) oT oT;have s:=Lib.bitLen_shift8 x.toNat oT oT;rw[e]at l⊢
       omega)
    | (rw[Lib.len8_of (x%256) oT oT]
       have e:(x%256).toNat=x.toNat:=oT;have l:=Lib.bitLen_le8' (x%256) oT oT;rw[e]at l⊢;omega)
def Rt(x:Nat)(w:World)(a:x<4294967296):Calls Tryz.prog 248 #[.int .u32 x] w λe w'=>e=.returned (.int .i64 (Lib.bitLen x))/\w=w':=by
 refine(Rs x w oT oT).mono ?_;rintro e w' ⟨rfl,rfl⟩;exact⟨R,R⟩
end Go.Proofs.YtiaekocjeinkjaaGreatDoor
