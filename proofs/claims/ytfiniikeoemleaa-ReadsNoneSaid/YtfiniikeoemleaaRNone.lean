/- The walk of ReadsNone. No condition. Printed by wip/dev/gen12l.py. -/
import Derived.Test.YtfiniikeoemleaaRNil
namespace Go.Proofs.Ytfiniikeoemleaa.R
open Go Go.RowKit Go.Proofs.YtfiniikeoemleaaW.PrintWords Go.Proofs.YtfiniikeoemleaaW.PrintLast Go.Proofs.YtfiniikeoemleaaW.PrintMore
attribute [local go_sem] max2_int min2_int max_two min_two max_three min_three max_four min_four
set_option linter.unusedVariables false
set_option linter.unusedSimpArgs false

set_option maxHeartbeats 8000000 in
set_option maxRecDepth 100000 in
theorem none_calls (a : Int) (w : World) : Calls Try.prog 6 #[.int .i64 a] w fun e w' => e = .returned (.bool true) ∧ Below w.heap.size w w' := by
  have HB := Aside0.mk (Below.refl w.heap.size w)
  have hu := Try.underlying30
  have hu2 := Try.underlying33
  go_enter Try.func6, Try.ntmps6
  go_wp2_with (first | (go_at_call 7; refine (alive_calls _).mono ?_; rintro e w1 ⟨rfl, hb⟩; have n2 := Aside0.mk (below_step (by repeat (first | exact HB.out | apply below_alloc | refine below_set ?_ GB.out)) hb); clear HB hb; have HB := n2; clear n2) | (go_at_call 10; refine (put_nil ⟨a, 0, 0, 0, false⟩ _).mono ?_; rintro e w1 ⟨rfl, hb⟩; have n2 := Aside0.mk (below_step (by repeat (first | exact HB.out | apply below_alloc | refine below_set ?_ GB.out)) hb); clear HB hb; have HB := n2; clear n2) | (go_at_call 18; refine (has_nil a _).mono ?_; rintro e w1 ⟨rfl, hb⟩; have n2 := Aside0.mk (below_step (by repeat (first | exact HB.out | apply below_alloc | refine below_set ?_ GB.out)) hb); clear HB hb; have HB := n2; clear n2) | (go_at_call 19; refine (mine_nil a _).mono ?_; rintro e w1 ⟨rfl, hb⟩; have n2 := Aside0.mk (below_step (by repeat (first | exact HB.out | apply below_alloc | refine below_set ?_ GB.out)) hb); clear HB hb; have HB := n2; clear n2) | (go_at_call 9; refine (add_nil ⟨a, 0, 0⟩ _).mono ?_; rintro e w1 ⟨rfl, hb⟩; have n2 := Aside0.mk (below_step (by repeat (first | exact HB.out | apply below_alloc | refine below_set ?_ GB.out)) hb); clear HB hb; have HB := n2; clear n2) | (go_at_call 11; refine (drop_nil a _).mono ?_; rintro e w1 ⟨rfl, hb⟩; have n2 := Aside0.mk (below_step (by repeat (first | exact HB.out | apply below_alloc | refine below_set ?_ GB.out)) hb); clear HB hb; have HB := n2; clear n2) | (go_at_call 12; refine (readings_nil _).mono ?_; rintro e w1 ⟨rfl, hb⟩; have n2 := Aside0.mk (below_step (by repeat (first | exact HB.out | apply below_alloc | refine below_set ?_ GB.out)) hb); clear HB hb; have HB := n2; clear n2) | (go_at_call 23; refine (owns_nil _).mono ?_; rintro e w1 ⟨rfl, hb⟩; have n2 := Aside0.mk (below_step (by repeat (first | exact HB.out | apply below_alloc | refine below_set ?_ GB.out)) hb); clear HB hb; have HB := n2; clear n2) | (go_at_call 13; refine (unclaimed_nil _).mono ?_; rintro e w1 ⟨rfl, hb⟩; have n2 := Aside0.mk (below_step (by repeat (first | exact HB.out | apply below_alloc | refine below_set ?_ GB.out)) hb); clear HB hb; have HB := n2; clear n2))
  go_ret
  exact ⟨by first | rfl | (simp; done), (by repeat (first | exact HB.out | apply below_alloc | refine below_set ?_ GB.out))⟩

end Go.Proofs.Ytfiniikeoemleaa.R
