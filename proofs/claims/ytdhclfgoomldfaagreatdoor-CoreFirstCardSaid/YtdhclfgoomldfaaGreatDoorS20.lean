/- Lemmas. -/
import Derived.Test.YtdhclfgoomldfaaGreatDoorS1
import Derived.Test.YtdhclfgoomldfaaGreatDoorS19
set_option linter.all false
namespace Go.Proofs.YtdhclfgoomldfaaGreatDoor
open Go.RowKit
def Pe:∀k:Nat,k<49->1<=k->∀m:Nat,m<49->1<=m->cg k&&&qH (cW m)=cg m&&&qH (cW k)->k=m:=by decide+kernel
def UL(x k m)(d:1<=k∧k<=48)(e:1<=m∧m<=48)(b:Lh x k=true)(c:Lh x m=true):k=m:=by
 have a:x&&&qH _=cg m:=pU.1 c;refine Pe k oT d.1 m oT e.1 ?_;rw[<-(pU.1 b), <-a,Nat.and_assoc,Nat.and_assoc,Nat.and_comm (qH _)]
def XI(x k)(a:1<=k∧k<=48)(h:Lh x k=true):dw x=k:=by
 have b:dw x≠0:=λe=>by
  have:=EF x 48 1 (aC _) e k a.1 oT;rw[this]at h;cases h
 obtain⟨c,d,f⟩:=Fp x b;exact UL x _ k ⟨c,d⟩ a f h
end Go.Proofs.YtdhclfgoomldfaaGreatDoor
