/- Runs of a call. -/
import Derived.Test.YtgmndgnhejdnaaaGreatDoorXMDK
namespace Go.Proofs.YtgmndgnhejdnaaaGreatDoor
open Go.AX Go.RowKit
set_option maxRecDepth 100000
theorem td0 : memoRun (callN (tabAt tabQ) XC 200 67) HE ed0 = true := by kernel_rfl
end Go.Proofs.YtgmndgnhejdnaaaGreatDoor
/- Runs of a call. -/
namespace Go.Proofs.YtgmndgnhejdnaaaGreatDoor
open Go.AX Go.RowKit
set_option maxRecDepth 100000
theorem td1 : memoRun (callN (tabAt tabQ) XC 200 67) HE ed1 = true := by kernel_rfl
end Go.Proofs.YtgmndgnhejdnaaaGreatDoor
/- Runs of a call. -/
namespace Go.Proofs.YtgmndgnhejdnaaaGreatDoor
open Go.AX Go.RowKit
set_option maxRecDepth 100000
theorem td2 : memoRun (callN (tabAt tabQ) XC 200 67) HE ed2 = true := by kernel_rfl
end Go.Proofs.YtgmndgnhejdnaaaGreatDoor
