/- Walks: what each Go function of this seat that stands here comes to; conditions stand in each contract. Written by a program of this session. -/
import Derived.Test.YtfiniikeoemleaaRx0
import Derived.Test.YtfiniikeoemleaaRUncLaw
namespace Go.Proofs.Ytfiniikeoemleaa.R
open Go.RowKit Go.Proofs.YtfiniikeoemleaaW.PrintWords Go.Proofs.YtfiniikeoemleaaW.PrintLast Go.Proofs.YtfiniikeoemleaaW.PrintMore
attribute [local go_sem] max2_int min2_int max_two min_two max_three min_three max_four min_four   -- for this text's walks alone
set_option linter.unusedVariables false
set_option linter.unusedSimpArgs false

-- GIVEN
/-! ### quarrellaw12_ReadsUnclaimed: function 3 -/
-- IMPORT Derived.Test.YtfiniikeoemleaaRUncLaw
def bytesOk (l : List Int) : Bool := l.all fun x => decide (0 ≤ x ∧ x < 256)
theorem bytesOk_mem {l : List Int} (h : bytesOk l = true) : ∀ x ∈ l, 0 ≤ x ∧ x < 256 := fun x hx => by
  unfold bytesOk at h
  rw [List.all_eq_true] at h
  exact of_decide_eq_true (h x hx)
def quarrellaw12_ReadsUnclaimed.f (l0 l1 : List Int) (a2 : Int) : Option Bool := if (bytesOk l0 && bytesOk l1 && bytesOk [a2]) = true then some true else none
theorem quarrellaw12_ReadsUnclaimed.calls (A0 : Option Addr) (c0 : Nat) (l0 : List Int) (A1 : Option Addr) (c1 : Nat) (l1 : List Int) (a2 : Int) (r : Bool) (w : World) (hr0 : Kd.C (Kd.int .u8) w A0 l0.length l0) (hc0 : l0.length ≤ c0) (hr1 : Kd.C (Kd.int .u8) w A1 l1.length l1) (hc1 : l1.length ≤ c1) (h : quarrellaw12_ReadsUnclaimed.f l0 l1 a2 = some r) :
    Calls Try.prog 3 #[.slice A0 l0.length c0, .slice A1 l1.length c1, .int .u8 a2] w fun e w' => e = .returned (.bool r) ∧ Below w.heap.size w w' := by
  unfold quarrellaw12_ReadsUnclaimed.f at h
  split at h
  · obtain rfl := Option.some.inj h
    rename_i hb
    simp only [Bool.and_eq_true] at hb
    exact unclaimedLaw_calls A0 c0 l0 A1 c1 l1 a2 w hr0 hc0 hr1 hc1 (bytesOk_mem hb.1.1) (bytesOk_mem hb.1.2) (bytesOk_mem hb.2 a2 (by simp))
  · cases h

end Go.Proofs.Ytfiniikeoemleaa.R
