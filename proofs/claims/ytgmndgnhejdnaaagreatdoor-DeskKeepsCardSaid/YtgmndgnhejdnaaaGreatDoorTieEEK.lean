/- The row's variables are laid as the program's text lays them: fact by fact. -/
import Derived.Test.YtgmndgnhejdnaaaGreatDoorTieAK
namespace Go.Proofs.YtgmndgnhejdnaaaGreatDoor
open Go
theorem tw5 : ∀ (os : Os) (tape : Tape), varsDone Tryz.prog 600 (varsId Tryz.prog) os tape = true := fun _ _ => by kernel_rfl
end Go.Proofs.YtgmndgnhejdnaaaGreatDoor
