/- The pure statement of the law ReadsActs, over numbers and lists. Written by a program of this session. -/
import Derived.Test.YtfiniikeoemleaaRx5
import Derived.Test.YtfiniikeoemleaaRArgs
namespace Go.Proofs.Ytfiniikeoemleaa.R
def quarrellaw12_ReadsActs.Pure : Prop := ∀ (l0 : List (S47)) (a1 : Int), l0.length ≤ 9223372036854775807 → (∀ a0 ∈ l0, WF47 a0) → (Lit.int .i64 a1).wf = true → quarrellaw12_ReadsActs.f l0 a1 = some true
end Go.Proofs.Ytfiniikeoemleaa.R
