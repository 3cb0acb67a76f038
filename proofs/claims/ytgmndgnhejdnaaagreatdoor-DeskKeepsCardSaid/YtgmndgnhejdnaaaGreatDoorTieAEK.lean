/- The row's variables are laid as the program's text lays them: fact by fact. -/
import Derived.Test.YtgmndgnhejdnaaaGreatDoorTieAK
namespace Go.Proofs.YtgmndgnhejdnaaaGreatDoor
open Go
def kindsP : List LaidKind := [.sentinel, .data, .sentinel, .sentinel, .sentinel, .sentinel, .sentinel, .sentinel, .sentinel, .sentinel, .sentinel, .data, .data, .data, .handle, .sentinel, .sentinel, .sentinel, .sentinel, .sentinel, .sentinel, .sentinel, .sentinel, .sentinel]
theorem tkE : lpE.map (fun x => Tryz.prog.kindOfLater x.1) = kindsP.map some := by kernel_rfl
theorem tnE : varsNamedLaterB Tryz.prog (varsId Tryz.prog) lpE = true := by kernel_rfl
end Go.Proofs.YtgmndgnhejdnaaaGreatDoor
