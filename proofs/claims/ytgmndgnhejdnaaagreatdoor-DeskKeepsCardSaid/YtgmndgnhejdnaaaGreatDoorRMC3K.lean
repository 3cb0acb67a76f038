/- Runs of a call. -/
import Derived.Test.YtgmndgnhejdnaaaGreatDoorXMCK
namespace Go.Proofs.YtgmndgnhejdnaaaGreatDoor
open Go.AX Go.RowKit
set_option maxRecDepth 100000
theorem tc3 : memoRun (callN (tabAt tabQ) X2 200 51) HE ec3 = true := by kernel_rfl
end Go.Proofs.YtgmndgnhejdnaaaGreatDoor
/- Runs of a call. -/
namespace Go.Proofs.YtgmndgnhejdnaaaGreatDoor
open Go.AX Go.RowKit
set_option maxRecDepth 100000
theorem tc4 : memoRun (callN (tabAt tabQ) X2 200 51) HE ec4 = true := by kernel_rfl
end Go.Proofs.YtgmndgnhejdnaaaGreatDoor
/- Runs of a call. -/
namespace Go.Proofs.YtgmndgnhejdnaaaGreatDoor
open Go.AX Go.RowKit
set_option maxRecDepth 100000
theorem tc5 : memoRun (callN (tabAt tabQ) X2 200 51) HE ec5 = true := by kernel_rfl
end Go.Proofs.YtgmndgnhejdnaaaGreatDoor
