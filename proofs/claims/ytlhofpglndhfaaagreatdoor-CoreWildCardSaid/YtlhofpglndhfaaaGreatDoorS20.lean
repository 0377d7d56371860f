/- Joined texts. -/
import Derived.Test.YtlhofpglndhfaaaGreatDoorS1
import Derived.Test.YtlhofpglndhfaaaGreatDoorS19
namespace Go.Proofs.YtlhofpglndhfaaaGreatDoor
open Go.RowKit
end Go.Proofs.YtlhofpglndhfaaaGreatDoor
