/- Walks: what each Go function of this seat that stands here comes to; conditions stand in each contract. Written by a program of this session. -/
import Derived.Test.YtfiniikeoemleaaRx0
import Derived.Test.YtfiniikeoemleaaROne
namespace Go.Proofs.Ytfiniikeoemleaa.R
open Go.RowKit Go.Proofs.YtfiniikeoemleaaW.PrintWords Go.Proofs.YtfiniikeoemleaaW.PrintLast Go.Proofs.YtfiniikeoemleaaW.PrintMore
attribute [local go_sem] max2_int min2_int max_two min_two max_three min_three max_four min_four   -- for this text's walks alone
set_option linter.unusedVariables false
set_option linter.unusedSimpArgs false

-- GIVEN
/-! ### quarrellaw12_ReadsOne: function 5 -/
-- IMPORT Derived.Test.YtfiniikeoemleaaROne
def quarrellaw12_ReadsOne.f (l0 : List S47) : Option Bool := some true
theorem quarrellaw12_ReadsOne.calls (A0 : Option Addr) (c0 : Nat) (l0 : List S47) (r : Bool) (w : World) (hr0 : Kd.C k47 w A0 l0.length l0) (hc0 : l0.length ≤ c0) (h : quarrellaw12_ReadsOne.f l0 = some r) :
    Calls Try.prog 5 #[.slice A0 l0.length c0] w fun e w' => e = .returned (.bool r) ∧ Below w.heap.size w w' := by
  obtain rfl := Option.some.inj h
  exact one_calls A0 c0 l0 w hr0 hc0

end Go.Proofs.Ytfiniikeoemleaa.R
