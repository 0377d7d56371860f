/- Lemmas. -/
import Derived.Test.YtffibhgbpgjioaaGreatDoorS1
import Derived.Test.YtffibhgbpgjioaaGreatDoorS19
set_option linter.all false
namespace Go.Proofs.YtffibhgbpgjioaaGreatDoor
open Go.RowKit
end Go.Proofs.YtffibhgbpgjioaaGreatDoor
