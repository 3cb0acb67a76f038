/- The runs begin here. -/
import Derived.Test.YtlbfndapmlmcfaaGreatDoorXInfer
import Derived.Test.YtlbfndapmlmcfaaGreatDoorAxD
namespace Go.Proofs.YtlbfndapmlmcfaaGreatDoor
open Go.AX
noncomputable section
def call : CallH := callN (tabAt tabQ) X2 100
def atH0 (args : List AV) : St := ⟨[], argsTm args 0 .nil, H0, []⟩
end
end Go.Proofs.YtlbfndapmlmcfaaGreatDoor
