/- Unclaimed, and New. Conditions: the state, and that the rows are short. Printed by wip/dev/gen12i.py. -/
import Derived.Test.YtfiniikeoemleaaRDelF
namespace Go.Proofs.Ytfiniikeoemleaa.R
open Go Go.RowKit Go.Proofs.YtfiniikeoemleaaW.PrintWords Go.Proofs.YtfiniikeoemleaaW.PrintLast Go.Proofs.YtfiniikeoemleaaW.PrintMore
attribute [local go_sem] max2_int min2_int max_two min_two max_three min_three max_four min_four
set_option linter.unusedVariables false
set_option linter.unusedSimpArgs false

set_option maxHeartbeats 8000000 in
set_option maxRecDepth 100000 in
theorem unclaimed_calls (base g : Nat) (rs : List S30) (os : List S33) (w : World) (h : IsR base w g rs os) (hlim : rs.length ≤ 1000) :
    Calls Try.prog 13 #[.pointer (some ⟨g, 0, none⟩)] w fun e w' => ∃ v0_ : Value, e = .returned v0_ ∧ Kd.R k30 30 w' w.heap.size (fun _ => True) v0_ (rs.filter (fun x => !(has33 os x.f0).2)) ∧ Below w.heap.size w w' := by
  have HS := Aside0.mk h
  have HL := Aside0.mk hlim
  have HB := Aside0.mk (Below.refl w.heap.size w)
  clear h hlim
  go_enter Try.func13, Try.ntmps13
  go_upto_region 1 with (first | ((with_reducible refine gate_dst (N := 1) rfl ?_); refine box_event ?hg (N := 1) ?hd (cs := #[.pointer (some ⟨g, 0, none⟩)]) (t := 24) ?hr ?_; (case hd => rfl); (case hg => rfl); (case hr => first | (go_simp; done) | (go_simp; rfl)); intro P hg w1 hbox hb; have n_HB := Aside0.mk (below_step HB.out hb); have n_HS := Aside0.mk (IsR.below HS.out hb); have n_BP := Aside0.mk (hbox); clear HB HS; have HB := n_HB; clear n_HB; have HS := n_HS; clear n_HS; have BP := n_BP; clear n_BP; (try clear qBP0); have qBP0 : World.cell? _ ⟨P, 0, none⟩ = some (.pointer (some ⟨g, 0, none⟩)) := (blk_cell BP.out 0).trans rfl; (try clear zBP0); have zBP0 : World.frozen? _ ⟨P, 0, none⟩ = false := blk_frozen BP.out 0; clear hbox hb; (try clear hg)))
  have HB1 := Aside0.mk HB.out
  go_wp2_with (first | ((with_reducible refine gate_callee (f := 12) rfl ?_); refine goesL_ (some 4) rfl rfl Try.func12 (by kernel_rfl) rfl #[.pointer (some ⟨g, 0, none⟩)] rfl (by (try simp only [List.map_toArray, List.map_cons, List.map_nil]); first | done | rfl | (simp only [List.length_drop, List.length_take]; rfl)) ?_; (refine (readings_calls base g rs os _ HS.out HL.out).mono ?_); rintro e w2 ⟨v4, rfl, hv, hb⟩; refine ⟨_, rfl, ?_⟩; (obtain ⟨A4, c4, ee⟩ := Kd.R_slice hv; subst ee); have HW := Aside0.mk (Below.refl w1.heap.size w1); have HS1 := HS; have HP1 := Aside0.mk ((blk_cell BP.out 0).trans rfl : w1.cell? ⟨P, 0, none⟩ = some (.pointer (some ⟨g, 0, none⟩))); have n_HB := Aside0.mk (below_step HB.out hb); have n_HS := Aside0.mk (IsR.below HS.out hb); have n_BP := Aside0.mk (blk_below BP.out hb); have n_HW := Aside0.mk (below_then HW.out HW.out.size hb); have n_HV := Aside0.mk (hv); clear HB HS BP HW; have HB := n_HB; clear n_HB; have HS := n_HS; clear n_HS; have BP := n_BP; clear n_BP; have HW := n_HW; clear n_HW; have HV := n_HV; clear n_HV; (try clear qBP0); have qBP0 : World.cell? _ ⟨P, 0, none⟩ = some (.pointer (some ⟨g, 0, none⟩)) := (blk_cell BP.out 0).trans rfl; (try clear zBP0); have zBP0 : World.frozen? _ ⟨P, 0, none⟩ = false := blk_frozen BP.out 0; clear hb) | ((with_reducible refine gate_callee (f := 31) rfl ?_); refine goesL_ (some 6) rfl rfl Try.func31 (by kernel_rfl) rfl #[.slice A4 rs.length c4, .func (.func 32) #[] #[.pointer (some ⟨P, 0, none⟩)]] rfl (by (try simp only [List.map_toArray, List.map_cons, List.map_nil]); first | done | rfl | (simp only [List.length_drop, List.length_take]; rfl)) ?_; (refine (delfunc_calls base g P rs os A4 c4 rs w1 _ HS1.out HP1.out HW.out HV.out).mono ?_); rintro e w3 ⟨v6, rfl, hr6, hb6⟩; refine ⟨_, rfl, ?_⟩; have HR6 := Aside0.mk hr6; have HB6 := Aside0.mk hb6; clear hr6 hb6))
  go_ret
  exact ⟨_, rfl, Kd.R_lower HR6.out (below_size HB1.out), below_then HB1.out HB1.out.size HB6.out⟩
set_option maxHeartbeats 8000000 in
set_option maxRecDepth 100000 in
theorem new_calls (w : World) : Calls Try.prog 8 #[] w fun e w' => ∃ g : Nat, e = .returned (.pointer (some ⟨g, 0, none⟩)) ∧ IsR w.heap.size w' g [] [] ∧ Below w.heap.size w w' := by
  have HB := Aside0.mk (Below.refl w.heap.size w)
  go_enter Try.func8, Try.ntmps8
  go_wp2_with (first | ((with_reducible refine gate_dst (N := 2) rfl ?_); refine box_event ?hg (N := 2) ?hd (cs := #[.slice none 0 0, .slice none 0 0]) (t := 64) ?hr ?_; (case hd => rfl); (case hg => rfl); (case hr => first | (go_simp; done) | (go_simp; rfl)); intro gb hg w1 hbox hb; have GK := Aside0.mk ((by rw [hg]; exact below_size HB.out : w.heap.size ≤ gb)); have n_HB := Aside0.mk (below_step HB.out hb); have n_BK := Aside0.mk (hbox); clear HB; have HB := n_HB; clear n_HB; have BK := n_BK; clear n_BK; (try clear qBK0); have qBK0 : World.cell? _ ⟨gb, 0, none⟩ = some (.slice none 0 0) := (blk_cell BK.out 0).trans rfl; (try clear zBK0); have zBK0 : World.frozen? _ ⟨gb, 0, none⟩ = false := blk_frozen BK.out 0; (try clear qBK1); have qBK1 : World.cell? _ ⟨gb, 1, none⟩ = some (.slice none 0 0) := (blk_cell BK.out 1).trans rfl; (try clear zBK1); have zBK1 : World.frozen? _ ⟨gb, 1, none⟩ = false := blk_frozen BK.out 1; clear hbox hb; (try clear hg)))
  go_ret
  exact ⟨_, rfl, ⟨_, _, BK.out, GK.out, Kd.R_nil _ _ _ _ _, Kd.R_nil _ _ _ _ _⟩, HB.out⟩

end Go.Proofs.Ytfiniikeoemleaa.R
