/- The pure statement of the law ReadsOne, over numbers and lists. Written by a program of this session. -/
import Derived.Test.YtfiniikeoemleaaRx6
import Derived.Test.YtfiniikeoemleaaRArgs
namespace Go.Proofs.Ytfiniikeoemleaa.R
def quarrellaw12_ReadsOne.Pure : Prop := ∀ (l0 : List (S47)), l0.length ≤ 9223372036854775807 → (∀ a0 ∈ l0, WF47 a0) → quarrellaw12_ReadsOne.f l0 = some true
end Go.Proofs.Ytfiniikeoemleaa.R
