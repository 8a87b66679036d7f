/- The sanity check of layer 12 computes to true. No condition. -/
import Derived.Test.YtcdoangbkgaapaaGreatF
import Derived.WalkKit
set_option linter.unusedVariables false
set_option maxHeartbeats 4000000
namespace Go.Proofs.YtcdoangbkgaapaaGreatK
open Go
theorem aw12 : cellplanelaw12_awake = some true := by kernel_rfl
end Go.Proofs.YtcdoangbkgaapaaGreatK
