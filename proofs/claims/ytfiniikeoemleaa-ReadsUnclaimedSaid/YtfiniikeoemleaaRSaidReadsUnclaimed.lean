/- The pure statement of the law ReadsUnclaimed, over numbers and lists. Written by a program of this session. -/
import Derived.Test.YtfiniikeoemleaaRx3
import Derived.Test.YtfiniikeoemleaaRArgs
namespace Go.Proofs.Ytfiniikeoemleaa.R
def quarrellaw12_ReadsUnclaimed.Pure : Prop := ∀ (l0 : List Int) (l1 : List Int) (a2 : Int), l0.length ≤ 9223372036854775807 → (∀ a0 ∈ l0, (Lit.int .u8 a0).wf = true) → l1.length ≤ 9223372036854775807 → (∀ a0 ∈ l1, (Lit.int .u8 a0).wf = true) → (Lit.int .u8 a2).wf = true → quarrellaw12_ReadsUnclaimed.f l0 l1 a2 = some true
end Go.Proofs.Ytfiniikeoemleaa.R
