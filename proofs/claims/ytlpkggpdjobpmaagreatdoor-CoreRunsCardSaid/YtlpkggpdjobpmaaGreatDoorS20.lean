/- Lemmas. -/
import Derived.Test.YtlpkggpdjobpmaaGreatDoorS1
import Derived.Test.YtlpkggpdjobpmaaGreatDoorS19
set_option linter.all false
namespace Go.Proofs.YtlpkggpdjobpmaaGreatDoor
open Go.RowKit
def Pe:∀k:Nat,k<49->1<=k->∀m:Nat,m<49->1<=m->code k&&&qH (cW m)=code m&&&qH (cW k)->k=m:=by decide+kernel
def UL(x k m)(hk:1<=k∧k<=48)(hm:1<=m∧m<=48)(h1:Lh x k=true)(h2:Lh x m=true):k=m:=by
 have e1:x&&&qH _=code k:=pU.1 h1;have e2:x&&&qH _=code m:=pU.1 h2;refine Pe k oT hk.1 m oT hm.1 ?_;rw[<-e1, <-e2,Nat.and_assoc,Nat.and_assoc,Nat.and_comm (qH _)]
def XI(x k)(hk:1<=k∧k<=48)(h:Lh x k=true):opOf x=k:=by
 have h0:opOf x≠0:=λe=>by
  have:=EF x 48 1 (aC _) e k hk.1 oT;rw[this]at h;cases h
 obtain⟨h1,h2,h3⟩:=Fp x h0;exact UL x _ k ⟨h1,h2⟩ hk h3 h
end Go.Proofs.YtlpkggpdjobpmaaGreatDoor
