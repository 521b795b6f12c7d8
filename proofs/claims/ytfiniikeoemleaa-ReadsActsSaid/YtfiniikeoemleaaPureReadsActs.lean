/- The pure statement of the law ReadsActs: the walk shows that the answer is true for every input. -/
import Derived.Test.YtfiniikeoemleaaRSaidReadsActs
namespace Go.Proofs.Ytfiniikeoemleaa.Pure
open Go.RowKit Go.Proofs.Ytfiniikeoemleaa.R Go.Proofs.YtfiniikeoemleaaW.PrintWords

theorem ReadsActs : quarrellaw12_ReadsActs.Pure := by
  unfold quarrellaw12_ReadsActs.Pure
  intros
  rfl

end Go.Proofs.Ytfiniikeoemleaa.Pure
