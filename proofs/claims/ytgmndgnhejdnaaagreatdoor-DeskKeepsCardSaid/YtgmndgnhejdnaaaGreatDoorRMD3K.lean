/- Runs of a call. -/
import Derived.Test.YtgmndgnhejdnaaaGreatDoorXMDK
namespace Go.Proofs.YtgmndgnhejdnaaaGreatDoor
open Go.AX Go.RowKit
set_option maxRecDepth 100000
theorem td3 : memoRun (callN (tabAt tabQ) XC 200 67) HE ed3 = true := by kernel_rfl
end Go.Proofs.YtgmndgnhejdnaaaGreatDoor
/- Runs of a call. -/
namespace Go.Proofs.YtgmndgnhejdnaaaGreatDoor
open Go.AX Go.RowKit
set_option maxRecDepth 100000
theorem td4 : memoRun (callN (tabAt tabQ) XC 200 67) HE ed4 = true := by kernel_rfl
end Go.Proofs.YtgmndgnhejdnaaaGreatDoor
/- Runs of a call. -/
namespace Go.Proofs.YtgmndgnhejdnaaaGreatDoor
open Go.AX Go.RowKit
set_option maxRecDepth 100000
theorem td5 : memoRun (callN (tabAt tabQ) XC 200 67) HE ed5 = true := by kernel_rfl
end Go.Proofs.YtgmndgnhejdnaaaGreatDoor
