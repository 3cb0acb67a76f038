/- The row's variables are laid as the program's text lays them: fact by fact. -/
import Derived.Test.YtgmndgnhejdnaaaGreatDoorTieAK
namespace Go.Proofs.YtgmndgnhejdnaaaGreatDoor
open Go
theorem t2E : ∀ (os : Os) (tape : Tape), (DataW.laidRun Tryz.prog (varsWorld Tryz.prog 600 (varsId Tryz.prog) os tape).memory 8 ((lpE.filter fun x => x.2.handleName?.isNone).map (·.1))).map (fun x => decide x.2.Nodup && laidRowsB Tryz.prog (varsWorld Tryz.prog 600 (varsId Tryz.prog) os tape).memory x.2) = some true := fun _ _ => by kernel_rfl
end Go.Proofs.YtgmndgnhejdnaaaGreatDoor
