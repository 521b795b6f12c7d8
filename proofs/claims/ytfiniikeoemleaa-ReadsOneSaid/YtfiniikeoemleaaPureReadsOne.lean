/- The pure statement of the law ReadsOne: the walk shows that the answer is true for every input. -/
import Derived.Test.YtfiniikeoemleaaRSaidReadsOne
namespace Go.Proofs.Ytfiniikeoemleaa.Pure
open Go.RowKit Go.Proofs.Ytfiniikeoemleaa.R Go.Proofs.YtfiniikeoemleaaW.PrintWords

theorem ReadsOne : quarrellaw12_ReadsOne.Pure := by
  unfold quarrellaw12_ReadsOne.Pure
  intros
  rfl

end Go.Proofs.Ytfiniikeoemleaa.Pure
