/- The row's variables are laid as the program's text lays them: fact by fact. -/
import Derived.Test.YtgmndgnhejdnaaaGreatDoorTieAK
namespace Go.Proofs.YtgmndgnhejdnaaaGreatDoor
open Go
theorem t3E : ∀ (os : Os) (tape : Tape), (lpE.filter fun x => x.2.handleName?.isSome).all (handleAtB Tryz.prog (varsWorld Tryz.prog 600 (varsId Tryz.prog) os tape).memory) = true := fun _ _ => by kernel_rfl
end Go.Proofs.YtgmndgnhejdnaaaGreatDoor
