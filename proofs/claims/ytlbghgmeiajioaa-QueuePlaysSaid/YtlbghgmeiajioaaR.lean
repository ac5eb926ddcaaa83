/- The two facts that every row of this seat wants. -/
import Derived.Test.YtlbghgmeiajioaaRows
import Derived.Test.YtlbghgmeiajioaaK
import Derived.ProofKit
import Derived.SliceStrings
import Derived.OpenShut
namespace Go.Proofs.Ytlbghgmeiajioaa

theorem own : ownKnob Try.prog.godebug = none := by kernel_rfl
theorem laidOut : laidOutB Try.prog = true := by kernel_rfl
end Go.Proofs.Ytlbghgmeiajioaa
