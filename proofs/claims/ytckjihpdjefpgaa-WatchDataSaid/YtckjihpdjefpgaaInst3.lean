
/- The contract of gather. -/
import Derived.Test.YtckjihpdjefpgaaInst2
namespace Go.Proofs.Ytckjihpdjefpgaa
open Go.RowKit

theorem take_sum (l : List Nat) (k : Nat) : (l.take k).sum ≤ l.sum := by
  have := congrArg List.sum (List.take_append_drop k l)
  rw [List.sum_append] at this
  omega

end Go.Proofs.Ytckjihpdjefpgaa
