/- What no set answers. No condition. Printed by wip/dev/gen12k.py. -/
import Derived.Test.YtfiniikeoemleaaRAlive
namespace Go.Proofs.Ytfiniikeoemleaa.R
open Go Go.RowKit Go.Proofs.YtfiniikeoemleaaW.PrintWords Go.Proofs.YtfiniikeoemleaaW.PrintLast Go.Proofs.YtfiniikeoemleaaW.PrintMore
attribute [local go_sem] max2_int min2_int max_two min_two max_three min_three max_four min_four
set_option linter.unusedVariables false
set_option linter.unusedSimpArgs false

set_option maxHeartbeats 8000000 in
set_option maxRecDepth 100000 in
theorem put_nil (y : S33) (w : World) : Calls Try.prog 10 #[.pointer none, .agg #[.int .i64 y.f0, .int .i64 y.f1, .int .i64 y.f2, .int .i64 y.f3, .bool y.f4]] w fun e w' => e = .returned (.tuple #[]) ∧ Below w.heap.size w w' := by
  have HB := Aside0.mk (Below.refl w.heap.size w)
  have hu := Try.underlying30
  have hu2 := Try.underlying33
  go_enter Try.func10, Try.ntmps10
  go_wp2
  first | go_end0 | ((try simp only [Exit.inBlock, Exit.then]); refine bodyPost_ret (results_none rfl _ _ _) rfl ?_)
  exact ⟨rfl, (by repeat (first | exact HB.out | apply below_alloc | refine below_set ?_ GB.out))⟩

set_option maxHeartbeats 8000000 in
set_option maxRecDepth 100000 in
theorem add_nil (x : S30) (w : World) : Calls Try.prog 9 #[.pointer none, .agg #[.int .i64 x.f0, .int .i64 x.f1, .int .i64 x.f2]] w fun e w' => e = .returned (.int .i64 6) ∧ Below w.heap.size w w' := by
  have HB := Aside0.mk (Below.refl w.heap.size w)
  have hu := Try.underlying30
  have hu2 := Try.underlying33
  go_enter Try.func9, Try.ntmps9
  go_wp2
  go_ret
  exact ⟨rfl, (by repeat (first | exact HB.out | apply below_alloc | refine below_set ?_ GB.out))⟩

set_option maxHeartbeats 8000000 in
set_option maxRecDepth 100000 in
theorem drop_nil (o : Int) (w : World) : Calls Try.prog 11 #[.pointer none, .int .i64 o] w fun e w' => e = .returned (.bool false) ∧ Below w.heap.size w w' := by
  have HB := Aside0.mk (Below.refl w.heap.size w)
  have hu := Try.underlying30
  have hu2 := Try.underlying33
  go_enter Try.func11, Try.ntmps11
  go_wp2
  go_ret
  exact ⟨rfl, (by repeat (first | exact HB.out | apply below_alloc | refine below_set ?_ GB.out))⟩

set_option maxHeartbeats 8000000 in
set_option maxRecDepth 100000 in
theorem readings_nil (w : World) : Calls Try.prog 12 #[.pointer none] w fun e w' => e = .returned (.slice none 0 0) ∧ Below w.heap.size w w' := by
  have HB := Aside0.mk (Below.refl w.heap.size w)
  have hu := Try.underlying30
  have hu2 := Try.underlying33
  go_enter Try.func12, Try.ntmps12
  go_wp2
  go_ret
  exact ⟨rfl, (by repeat (first | exact HB.out | apply below_alloc | refine below_set ?_ GB.out))⟩

set_option maxHeartbeats 8000000 in
set_option maxRecDepth 100000 in
theorem owns_nil (w : World) : Calls Try.prog 23 #[.pointer none] w fun e w' => e = .returned (.slice none 0 0) ∧ Below w.heap.size w w' := by
  have HB := Aside0.mk (Below.refl w.heap.size w)
  have hu := Try.underlying30
  have hu2 := Try.underlying33
  go_enter Try.func23, Try.ntmps23
  go_wp2
  go_ret
  exact ⟨rfl, (by repeat (first | exact HB.out | apply below_alloc | refine below_set ?_ GB.out))⟩

set_option maxHeartbeats 8000000 in
set_option maxRecDepth 100000 in
theorem has_nil (o : Int) (w : World) : Calls Try.prog 18 #[.pointer none, .int .i64 o] w fun e w' => e = .returned (.tuple #[.agg #[.int .i64 0, .int .i64 0, .int .i64 0], .bool false]) ∧ Below w.heap.size w w' := by
  have HB := Aside0.mk (Below.refl w.heap.size w)
  have hu := Try.underlying30
  have hu2 := Try.underlying33
  go_enter Try.func18, Try.ntmps18
  go_wp2_with (first | ((with_reducible refine gate_dst (N := 4) rfl ?_); refine box_event ?hg (N := 4) ?hd (cs := #[.int .i64 0, .int .i64 0, .int .i64 0]) (t := 30) ?hr ?_; (case hd => rfl); (case hg => rfl); (case hr => first | (go_simp; done) | (go_simp; rfl)); intro gb hg w1 hbox hb; have GB := Aside0.mk ((by rw [hg]; exact below_size HB.out : w.heap.size ≤ gb)); have n_HB := Aside0.mk (below_step HB.out hb); have n_BK := Aside0.mk (hbox); clear HB; have HB := n_HB; clear n_HB; have BK := n_BK; clear n_BK; (try clear qBK0); have qBK0 : World.cell? _ ⟨gb, 0, none⟩ = some (.int .i64 0) := (blk_cell BK.out 0).trans rfl; (try clear zBK0); have zBK0 : World.frozen? _ ⟨gb, 0, none⟩ = false := blk_frozen BK.out 0; (try clear qBK1); have qBK1 : World.cell? _ ⟨gb, 1, none⟩ = some (.int .i64 0) := (blk_cell BK.out 1).trans rfl; (try clear zBK1); have zBK1 : World.frozen? _ ⟨gb, 1, none⟩ = false := blk_frozen BK.out 1; (try clear qBK2); have qBK2 : World.cell? _ ⟨gb, 2, none⟩ = some (.int .i64 0) := (blk_cell BK.out 2).trans rfl; (try clear zBK2); have zBK2 : World.frozen? _ ⟨gb, 2, none⟩ = false := blk_frozen BK.out 2; clear hbox hb; (try clear hg)))
  refine bodyPost_ret (results_ct rfl _ _ gb 30 #[.int .i64 0, .int .i64 0, .int .i64 0] (0, 0) _ rfl (by refine blk_put (cs := #[.int .i64 0, .int .i64 0, .int .i64 0]) ?_ 2 _ rfl; refine blk_put (cs := #[.int .i64 0, .int .i64 0, .int .i64 0]) ?_ 1 _ rfl; refine blk_put (cs := #[.int .i64 0, .int .i64 0, .int .i64 0]) ?_ 0 _ rfl; exact BK.out) Try.underlying30 rfl (by kernel_rfl)) rfl ?_
  exact ⟨rfl, (by repeat (first | exact HB.out | apply below_alloc | refine below_set ?_ GB.out))⟩

set_option maxHeartbeats 8000000 in
set_option maxRecDepth 100000 in
theorem mine_nil (o : Int) (w : World) : Calls Try.prog 19 #[.pointer none, .int .i64 o] w fun e w' => e = .returned (.tuple #[.agg #[.int .i64 0, .int .i64 0, .int .i64 0, .int .i64 0, .bool false], .bool false]) ∧ Below w.heap.size w w' := by
  have HB := Aside0.mk (Below.refl w.heap.size w)
  have hu := Try.underlying30
  have hu2 := Try.underlying33
  go_enter Try.func19, Try.ntmps19
  go_wp2_with (first | ((with_reducible refine gate_dst (N := 4) rfl ?_); refine box_event ?hg (N := 4) ?hd (cs := #[.int .i64 0, .int .i64 0, .int .i64 0, .int .i64 0, .bool false]) (t := 33) ?hr ?_; (case hd => rfl); (case hg => rfl); (case hr => first | (go_simp; done) | (go_simp; rfl)); intro gb hg w1 hbox hb; have GB := Aside0.mk ((by rw [hg]; exact below_size HB.out : w.heap.size ≤ gb)); have n_HB := Aside0.mk (below_step HB.out hb); have n_BK := Aside0.mk (hbox); clear HB; have HB := n_HB; clear n_HB; have BK := n_BK; clear n_BK; (try clear qBK0); have qBK0 : World.cell? _ ⟨gb, 0, none⟩ = some (.int .i64 0) := (blk_cell BK.out 0).trans rfl; (try clear zBK0); have zBK0 : World.frozen? _ ⟨gb, 0, none⟩ = false := blk_frozen BK.out 0; (try clear qBK1); have qBK1 : World.cell? _ ⟨gb, 1, none⟩ = some (.int .i64 0) := (blk_cell BK.out 1).trans rfl; (try clear zBK1); have zBK1 : World.frozen? _ ⟨gb, 1, none⟩ = false := blk_frozen BK.out 1; (try clear qBK2); have qBK2 : World.cell? _ ⟨gb, 2, none⟩ = some (.int .i64 0) := (blk_cell BK.out 2).trans rfl; (try clear zBK2); have zBK2 : World.frozen? _ ⟨gb, 2, none⟩ = false := blk_frozen BK.out 2; (try clear qBK3); have qBK3 : World.cell? _ ⟨gb, 3, none⟩ = some (.int .i64 0) := (blk_cell BK.out 3).trans rfl; (try clear zBK3); have zBK3 : World.frozen? _ ⟨gb, 3, none⟩ = false := blk_frozen BK.out 3; (try clear qBK4); have qBK4 : World.cell? _ ⟨gb, 4, none⟩ = some (.bool false) := (blk_cell BK.out 4).trans rfl; (try clear zBK4); have zBK4 : World.frozen? _ ⟨gb, 4, none⟩ = false := blk_frozen BK.out 4; clear hbox hb; (try clear hg)))
  refine bodyPost_ret (results_ct rfl _ _ gb 33 #[.int .i64 0, .int .i64 0, .int .i64 0, .int .i64 0, .bool false] (0, 0) _ rfl (by refine blk_put (cs := #[.int .i64 0, .int .i64 0, .int .i64 0, .int .i64 0, .bool false]) ?_ 4 _ rfl; refine blk_put (cs := #[.int .i64 0, .int .i64 0, .int .i64 0, .int .i64 0, .bool false]) ?_ 3 _ rfl; refine blk_put (cs := #[.int .i64 0, .int .i64 0, .int .i64 0, .int .i64 0, .bool false]) ?_ 2 _ rfl; refine blk_put (cs := #[.int .i64 0, .int .i64 0, .int .i64 0, .int .i64 0, .bool false]) ?_ 1 _ rfl; refine blk_put (cs := #[.int .i64 0, .int .i64 0, .int .i64 0, .int .i64 0, .bool false]) ?_ 0 _ rfl; exact BK.out) Try.underlying33 rfl (by kernel_rfl)) rfl ?_
  exact ⟨rfl, (by repeat (first | exact HB.out | apply below_alloc | refine below_set ?_ GB.out))⟩

set_option maxHeartbeats 8000000 in
set_option maxRecDepth 100000 in
theorem idx_nil (F : Value) (w : World) : Calls Try.prog 34 #[.slice none 0 0, F] w fun e w' => e = .returned (.int .i64 (-1)) ∧ Below w.heap.size w w' := by
  go_enter Try.func34, Try.ntmps34
  go_wp2
  go_loopg [5, 8] 0 (fun gg _ s8 wr => s8 = .int .i64 0 ∧ Aside0 (Below w.heap.size w wr))
  case atStart => exact ⟨rfl, ⟨Below.refl _ w⟩⟩
  case round =>
    obtain ⟨rfl, HB⟩ := hrel
    go_wp2
    go_ret
    exact ⟨rfl, HB.out⟩

set_option maxHeartbeats 8000000 in
set_option maxRecDepth 100000 in
theorem delf_nil (F : Value) (w : World) : Calls Try.prog 31 #[.slice none 0 0, F] w fun e w' => e = .returned (.slice none 0 0) ∧ Below w.heap.size w w' := by
  have HB := Aside0.mk (Below.refl w.heap.size w)
  have hu := Try.underlying30
  have hu2 := Try.underlying33
  go_enter Try.func31, Try.ntmps31
  go_wp2_with (first | ((with_reducible refine gate_callee (f := 34) rfl ?_); refine goesL_ (some 10) rfl rfl Try.func34 (by kernel_rfl) rfl #[.slice none 0 0, F] rfl (by (try simp only [List.map_toArray, List.map_cons, List.map_nil]); first | done | rfl | (simp only [List.length_drop, List.length_take]; rfl)) ?_; (refine (idx_nil F _).mono ?_); rintro e w2 ⟨rfl, hb⟩; refine ⟨_, rfl, ?_⟩; have n_HB := Aside0.mk (below_step HB.out hb); clear HB; have HB := n_HB; clear n_HB; clear hb))
  go_ret
  exact ⟨rfl, (by repeat (first | exact HB.out | apply below_alloc | refine below_set ?_ GB.out))⟩

set_option maxHeartbeats 8000000 in
set_option maxRecDepth 100000 in
theorem unclaimed_nil (w : World) : Calls Try.prog 13 #[.pointer none] w fun e w' => e = .returned (.slice none 0 0) ∧ Below w.heap.size w w' := by
  have HB := Aside0.mk (Below.refl w.heap.size w)
  have hu := Try.underlying30
  have hu2 := Try.underlying33
  go_enter Try.func13, Try.ntmps13
  go_wp2_with (first | ((with_reducible refine gate_dst (N := 1) rfl ?_); refine box_event ?hg (N := 1) ?hd (cs := #[.pointer none]) (t := 24) ?hr ?_; (case hd => rfl); (case hg => rfl); (case hr => first | (go_simp; done) | (go_simp; rfl)); intro P hg w1 hbox hb; have n_HB := Aside0.mk (below_step HB.out hb); have n_BP := Aside0.mk (hbox); clear HB; have HB := n_HB; clear n_HB; have BP := n_BP; clear n_BP; (try clear qBP0); have qBP0 : World.cell? _ ⟨P, 0, none⟩ = some (.pointer none) := (blk_cell BP.out 0).trans rfl; (try clear zBP0); have zBP0 : World.frozen? _ ⟨P, 0, none⟩ = false := blk_frozen BP.out 0; clear hbox hb; (try clear hg)) | ((with_reducible refine gate_callee (f := 12) rfl ?_); refine goesL_ (some 4) rfl rfl Try.func12 (by kernel_rfl) rfl #[.pointer none] rfl (by (try simp only [List.map_toArray, List.map_cons, List.map_nil]); first | done | rfl | (simp only [List.length_drop, List.length_take]; rfl)) ?_; (refine (readings_nil _).mono ?_); rintro e w2 ⟨rfl, hb⟩; refine ⟨_, rfl, ?_⟩; have n_HB := Aside0.mk (below_step HB.out hb); have n_BP := Aside0.mk (blk_below BP.out hb); clear HB BP; have HB := n_HB; clear n_HB; have BP := n_BP; clear n_BP; (try clear qBP0); have qBP0 : World.cell? _ ⟨P, 0, none⟩ = some (.pointer none) := (blk_cell BP.out 0).trans rfl; (try clear zBP0); have zBP0 : World.frozen? _ ⟨P, 0, none⟩ = false := blk_frozen BP.out 0; clear hb) | ((with_reducible refine gate_callee (f := 31) rfl ?_); refine goesL_ (some 6) rfl rfl Try.func31 (by kernel_rfl) rfl #[.slice none 0 0, .func (.func 32) #[] #[.pointer (some ⟨P, 0, none⟩)]] rfl (by (try simp only [List.map_toArray, List.map_cons, List.map_nil]); first | done | rfl | (simp only [List.length_drop, List.length_take]; rfl)) ?_; (refine (delf_nil _ _).mono ?_); rintro e w3 ⟨rfl, hb⟩; refine ⟨_, rfl, ?_⟩; have n_HB := Aside0.mk (below_step HB.out hb); have n_BP := Aside0.mk (blk_below BP.out hb); clear HB BP; have HB := n_HB; clear n_HB; have BP := n_BP; clear n_BP; (try clear qBP0); have qBP0 : World.cell? _ ⟨P, 0, none⟩ = some (.pointer none) := (blk_cell BP.out 0).trans rfl; (try clear zBP0); have zBP0 : World.frozen? _ ⟨P, 0, none⟩ = false := blk_frozen BP.out 0; clear hb))
  go_ret
  exact ⟨rfl, (by repeat (first | exact HB.out | apply below_alloc | refine below_set ?_ GB.out))⟩

end Go.Proofs.Ytfiniikeoemleaa.R
