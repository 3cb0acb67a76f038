/- Runs of a call. -/
import Derived.Test.YtgmndgnhejdnaaaGreatDoorXMCK
namespace Go.Proofs.YtgmndgnhejdnaaaGreatDoor
open Go.AX Go.RowKit
set_option maxRecDepth 100000
theorem tc0 : memoRun (callN (tabAt tabQ) X2 200 51) HE ec0 = true := by kernel_rfl
end Go.Proofs.YtgmndgnhejdnaaaGreatDoor
/- Runs of a call. -/
namespace Go.Proofs.YtgmndgnhejdnaaaGreatDoor
open Go.AX Go.RowKit
set_option maxRecDepth 100000
theorem tc1 : memoRun (callN (tabAt tabQ) X2 200 51) HE ec1 = true := by kernel_rfl
end Go.Proofs.YtgmndgnhejdnaaaGreatDoor
/- Runs of a call. -/
namespace Go.Proofs.YtgmndgnhejdnaaaGreatDoor
open Go.AX Go.RowKit
set_option maxRecDepth 100000
theorem tc2 : memoRun (callN (tabAt tabQ) X2 200 51) HE ec2 = true := by kernel_rfl
end Go.Proofs.YtgmndgnhejdnaaaGreatDoor
