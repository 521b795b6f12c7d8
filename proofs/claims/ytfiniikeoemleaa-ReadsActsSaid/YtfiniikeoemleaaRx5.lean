/- Walks: what each Go function of this seat that stands here comes to; conditions stand in each contract. Written by a program of this session. -/
import Derived.Test.YtfiniikeoemleaaRx0
import Derived.Test.YtfiniikeoemleaaRActs
namespace Go.Proofs.Ytfiniikeoemleaa.R
open Go.RowKit Go.Proofs.YtfiniikeoemleaaW.PrintWords Go.Proofs.YtfiniikeoemleaaW.PrintLast Go.Proofs.YtfiniikeoemleaaW.PrintMore
attribute [local go_sem] max2_int min2_int max_two min_two max_three min_three max_four min_four   -- for this text's walks alone
set_option linter.unusedVariables false
set_option linter.unusedSimpArgs false

-- GIVEN
/-! ### quarrellaw12_ReadsActs: function 4 -/
-- IMPORT Derived.Test.YtfiniikeoemleaaRActs
def quarrellaw12_ReadsActs.f (l0 : List S47) (a1 : Int) : Option Bool := some true
theorem quarrellaw12_ReadsActs.calls (A0 : Option Addr) (c0 : Nat) (l0 : List S47) (a1 : Int) (r : Bool) (w : World) (hr0 : Kd.C k47 w A0 l0.length l0) (hc0 : l0.length ≤ c0) (h : quarrellaw12_ReadsActs.f l0 a1 = some r) :
    Calls Try.prog 4 #[.slice A0 l0.length c0, .int .i64 a1] w fun e w' => e = .returned (.bool r) ∧ Below w.heap.size w w' := by
  obtain rfl := Option.some.inj h
  exact acts_calls A0 c0 l0 a1 w hr0 hc0

end Go.Proofs.Ytfiniikeoemleaa.R
