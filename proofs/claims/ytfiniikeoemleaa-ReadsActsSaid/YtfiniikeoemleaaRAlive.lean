/- alive: the document's example. No condition. Printed by wip/dev/gen12j.py. -/
import Derived.Test.YtfiniikeoemleaaRUncl
namespace Go.Proofs.Ytfiniikeoemleaa.R
open Go Go.RowKit Go.Proofs.YtfiniikeoemleaaW.PrintWords Go.Proofs.YtfiniikeoemleaaW.PrintLast Go.Proofs.YtfiniikeoemleaaW.PrintMore
attribute [local go_sem] max2_int min2_int max_two min_two max_three min_three max_four min_four
set_option linter.unusedVariables false
set_option linter.unusedSimpArgs false

theorem IsR.lower {base b' : Nat} {w : World} {g : Nat} {rs : List S30} {os : List S33} (h : IsR base w g rs os) (hb : b' ≤ base) : IsR b' w g rs os := by
  obtain ⟨vr, vo, h1, h2, h3, h4⟩ := h
  exact ⟨vr, vo, h1, Nat.le_trans hb h2, Kd.R_lower h3 hb, Kd.R_lower h4 hb⟩
set_option maxHeartbeats 8000000 in
set_option maxRecDepth 100000 in
theorem alive_calls (w : World) : Calls Try.prog 7 #[] w fun e w' => e = .returned (.bool true) ∧ Below w.heap.size w w' := by
  have HB := Aside0.mk (Below.refl w.heap.size w)
  have hu := Try.underlying30
  go_enter Try.func7, Try.ntmps7
  go_upto_region 2 with (first | ((with_reducible refine gate_callee (f := 8) rfl ?_); refine goesL_ (some 3) rfl rfl Try.func8 (by kernel_rfl) rfl #[] rfl (by first | done | rfl | simp) ?_; (refine (new_calls _).mono ?_); rintro e w1 ⟨g, rfl, hs, hb⟩; refine ⟨_, rfl, ?_⟩; have HS := Aside0.mk hs; have n2 := Aside0.mk (below_step HB.out hb); clear HB hs hb; have HB := n2; clear n2))
  go_upto_region 6 with (first | ((with_reducible refine gate_callee (f := 9) rfl ?_); refine goesL_ (some 6) rfl rfl Try.func9 (by kernel_rfl) rfl #[.pointer (some ⟨g, 0, none⟩), .agg #[.int .i64 0, .int .i64 0, .int .i64 0]] rfl (by (try simp only [List.map_toArray, List.map_cons, List.map_nil]); first | done | rfl | (simp only [List.length_drop, List.length_take]; rfl)) ?_; (refine (add_miss _ g [] [] (⟨0, 0, 0⟩ : S30) _ HS.out (below_size HB.out) (by simp) (by decide)).mono ?_); rintro e w1 ⟨rfl, hs, hfr, hbb⟩; refine ⟨_, rfl, ?_⟩; have n1 := Aside0.mk hs; have n2 := Aside0.mk (HB.out.trans hbb); clear HS HB hs hfr hbb; have HS := n1; have HB := n2; clear n1 n2) | ((with_reducible refine gate_callee (f := 9) rfl ?_); refine goesL_ (some 9) rfl rfl Try.func9 (by kernel_rfl) rfl #[.pointer (some ⟨g, 0, none⟩), .agg #[.int .i64 1, .int .i64 0, .int .i64 0]] rfl (by (try simp only [List.map_toArray, List.map_cons, List.map_nil]); first | done | rfl | (simp only [List.length_drop, List.length_take]; rfl)) ?_; (refine (add_miss _ g [(⟨0, 0, 0⟩ : S30)] [] (⟨1, 0, 0⟩ : S30) _ HS.out (below_size HB.out) (by simp) (by decide)).mono ?_); rintro e w1 ⟨rfl, hs, hfr, hbb⟩; refine ⟨_, rfl, ?_⟩; have n1 := Aside0.mk hs; have n2 := Aside0.mk (HB.out.trans hbb); clear HS HB hs hfr hbb; have HS := n1; have HB := n2; clear n1 n2) | ((with_reducible refine gate_callee (f := 10) rfl ?_); refine goesL_ (some 12) rfl rfl Try.func10 (by kernel_rfl) rfl #[.pointer (some ⟨g, 0, none⟩), .agg #[.int .i64 1, .int .i64 0, .int .i64 0, .int .i64 0, .bool false]] rfl (by (try simp only [List.map_toArray, List.map_cons, List.map_nil]); first | done | rfl | (simp only [List.length_drop, List.length_take]; rfl)) ?_; (refine (put_miss _ g [(⟨0, 0, 0⟩ : S30), (⟨1, 0, 0⟩ : S30)] [] (⟨1, 0, 0, 0, false⟩ : S33) _ HS.out (below_size HB.out) (by simp) (by decide)).mono ?_); rintro e w1 ⟨rfl, hs, hfr, hbb⟩; refine ⟨_, rfl, ?_⟩; have n1 := Aside0.mk hs; have n2 := Aside0.mk (HB.out.trans hbb); clear HS HB hs hfr hbb; have HS := n1; have HB := n2; clear n1 n2) | ((with_reducible refine gate_callee (f := 13) rfl ?_); refine goesL_ (some 14) rfl rfl Try.func13 (by kernel_rfl) rfl #[.pointer (some ⟨g, 0, none⟩)] rfl (by (try simp only [List.map_toArray, List.map_cons, List.map_nil]); first | done | rfl | (simp only [List.length_drop, List.length_take]; rfl)) ?_; (refine (unclaimed_calls _ g [(⟨0, 0, 0⟩ : S30), (⟨1, 0, 0⟩ : S30)] [(⟨1, 0, 0, 0, false⟩ : S33)] _ HS.out (by simp)).mono ?_); rintro e w1 ⟨v, rfl, hv, hb⟩; refine ⟨_, rfl, ?_⟩; have hv1 : Kd.R k30 30 w1 _ (fun _ => True) v [(⟨0, 0, 0⟩ : S30)] := hv; (obtain ⟨A4, c4, ee⟩ := Kd.R_slice hv1; subst ee); have HV := Aside0.mk hv1; have n1 := Aside0.mk (HS.out.below hb); have n2 := Aside0.mk (below_step HB.out hb); clear HS HB hv hv1 hb; have HS := n1; have HB := n2; clear n1 n2))
  obtain ⟨ad, ea, h0, h1, h2⟩ := at_T30 (Kd.R_reads' HV.out).2.2 0 (by decide) (by decide)
  obtain ⟨b4, eb, _⟩ := block30 (k := 0) HV.out (by decide)
  subst eb
  injection ea with ea
  subst ea
  have h0' : _ = some (Value.int .i64 0) := h0
  simp only [Int.toNat_zero, Nat.zero_mul, Addr.add_lit, Nat.add_zero] at h0'
  clear h0 h1 h2
  go_wp2_with (first | (go_at_call 11; (refine (drop_hit _ g 0 [(⟨0, 0, 0⟩ : S30), (⟨1, 0, 0⟩ : S30)] [(⟨1, 0, 0, 0, false⟩ : S33)] 0 _ HS.out (below_size HB.out) (by simp) (by simp) (by decide)).mono ?_); rintro e w1 ⟨rfl, hs, hfr, hbb⟩; have n1 := Aside0.mk hs; have n2 := Aside0.mk (HB.out.trans hbb); clear HS HB hs hfr hbb; have HS := n1; have HB := n2; clear n1 n2) | (go_at_call 13; (refine (unclaimed_calls _ g [(⟨1, 0, 0⟩ : S30)] [(⟨1, 0, 0, 0, false⟩ : S33)] _ HS.out (by simp)).mono ?_); rintro e w1 ⟨v, rfl, hv, hb⟩; have hv1 : Kd.R k30 30 w1 _ (fun _ => True) v [] := hv; (obtain ⟨A5, c5, ee⟩ := Kd.R_slice hv1; subst ee); have n2 := Aside0.mk (below_step HB.out hb); clear HS HB hv hv1 hb; have HB := n2; clear n2))
  go_ret
  exact ⟨by first | rfl | (simp; done), HB.out⟩

end Go.Proofs.Ytfiniikeoemleaa.R
