/- Clones of rows, and all readings and own ones of a set. Conditions: the rows, and that they are short. Printed by wip/dev/gen12c.py. -/
import Derived.Test.YtfiniikeoemleaaRSet
import Derived.WalkSpells
import Derived.BigRegion
import Derived.ChangeAlike
namespace Go.Proofs.Ytfiniikeoemleaa.R
open Go Go.RowKit Go.Proofs.YtfiniikeoemleaaW.PrintWords Go.Proofs.YtfiniikeoemleaaW.PrintLast Go.Proofs.YtfiniikeoemleaaW.PrintMore
attribute [local go_sem] max2_int min2_int max_two min_two max_three min_three max_four min_four
set_option linter.unusedVariables false
set_option linter.unusedSimpArgs false

set_option maxHeartbeats 8000000 in
set_option maxRecDepth 100000 in
theorem clone30_calls (A0 : Option Addr) (c0 : Nat) (l0 : List S30) (w : World) (hr0 : Kd.C k30 w A0 l0.length l0) (hlim : l0.length ≤ 1000) :
    Calls Try.prog 30 #[.slice A0 l0.length c0] w fun e w' => ∃ v0_ : Value, e = .returned v0_ ∧ Kd.R k30 30 w' w.heap.size (fun _ => True) v0_ l0 ∧ Below w.heap.size w w' := by
  have heq := fun (W : World) => Lib.run_eql_slice_nil (P := Try.prog) W 35 30 A0 l0.length c0 0 0 Try.underlying35
  cases A0 with
  | none =>
    have hn : l0 = [] := by
      rcases Nat.eq_zero_or_pos l0.length with h | h
      · exact List.eq_nil_of_length_eq_zero h
      · obtain ⟨ad, h', _⟩ := hr0.2.2 h
        cases h'
    subst hn
    clear hr0 hlim
    simp only [Option.isNone_none, List.length_nil] at heq
    go_enter Try.func30, Try.ntmps30
    go_wp2
    go_ret
    exact ⟨_, rfl, Kd.R_nil _ _ _ _ _, Below.refl _ _⟩
  | some ad =>
    simp only [Option.isNone_some] at heq
    have HR1 := Aside0.mk hr0
    have HL := Aside0.mk hlim
    have HB := Aside0.mk (Below.refl w.heap.size w)
    clear hr0 hlim
    go_enter Try.func30, Try.ntmps30
    go_wp2_with (first | ((with_reducible refine gate_dst (N := 5) rfl ?_); refine Kd.R_lit k30 _ 30 ?hg (N := 5) ?hd (xs := ([] : List S30)) (inner := []) (ok := fun _ => True) (okp := fun _ => True) ?hr ?hp (fun _ hk => hk) trivial (Below.refl _ _) (Nat.le_refl _) (by simp) ?_; (case hd => rfl); (case hg => rfl); (case hr => first | (go_simp; done) | (go_simp; rfl)); (case hp => exact (Reps.none _ _)); intro v5 w4 ho5 hb hg_ hnew_; clear hg_ hnew_; have n_HB := Aside0.mk (below_step HB.out hb); have n_HR1 := Aside0.mk (Kd.C_below HR1.out hb); have n_HO5 := Aside0.mk (Kd.R_lower ho5 (below_size HB.out)); clear HB HR1; have HB := n_HB; clear n_HB; have HR1 := n_HR1; clear n_HR1; have HO5 := n_HO5; clear n_HO5; clear hb ho5) | ((with_reducible refine gate_builtin (b := .append) (xs := #[.tmp 5, .tmp 6]) rfl ?_); at_builtin; refine Kd.R_append_rows k30 (w0 := w) w.heap.size rfl (.tmp 5) (.tmp 6) 35 30 (.agg #[.int .i64 0, .int .i64 0, .int .i64 0]) 24 rfl Try.underlying35 (by kernel_rfl) rfl (by decide) (by omega) v5 ([] : List S30) l0 _ _ _ (fun _ => True) (fun _ => False) rfl rfl ?aO ?aR (fun _ _ h => h) (fun _ h => h.elim) ?aF ?aB ?aS ?aL ?_; (case aR => exact HR1.out); (case aB => exact HB.out); (case aF => exact (fun _ _ => trivial)); (case aO => exact HO5.out); (case aS => exact below_size HB.out); (case aL => have := HL.out; simp only [List.length_nil]; omega); intro v7 w5 ho hb hg hat; have n0_ := Aside0.mk hb; have n1_ := Aside0.mk ho; clear HB; have HB := n0_; have HO7 := n1_; clear n0_ n1_ ho hb hg hat))
    go_ret
    exact ⟨_, rfl, by simpa using HO7.out, HB.out⟩
set_option maxHeartbeats 8000000 in
set_option maxRecDepth 100000 in
theorem readings_calls (base g : Nat) (rs : List S30) (os : List S33) (w : World) (h : IsR base w g rs os) (hlim : rs.length ≤ 1000) :
    Calls Try.prog 12 #[.pointer (some ⟨g, 0, none⟩)] w fun e w' => ∃ v0_ : Value, e = .returned v0_ ∧ Kd.R k30 30 w' w.heap.size (fun _ => True) v0_ rs ∧ Below w.heap.size w w' := by
  obtain ⟨vr, vo, hg0, hge, hr, ho⟩ := h
  obtain ⟨Ar, cr, er⟩ := Kd.R_slice hr
  obtain ⟨Ao, co, eo⟩ := Kd.R_slice ho
  subst er eo
  have BS := Aside0.mk hg0
  have HRr := Aside0.mk hr
  have HRo := Aside0.mk ho
  have GE := Aside0.mk hge
  have HB := Aside0.mk (Below.refl w.heap.size w)
  clear hg0 hge hr ho
  have HL := Aside0.mk hlim
  clear hlim
  (try clear qBS0)
  have qBS0 : World.cell? _ ⟨g, 0, none⟩ = some (.slice Ar rs.length cr) := (blk_cell BS.out 0).trans rfl
  (try clear zBS0)
  have zBS0 : World.frozen? _ ⟨g, 0, none⟩ = false := blk_frozen BS.out 0
  (try clear qBS1)
  have qBS1 : World.cell? _ ⟨g, 1, none⟩ = some (.slice Ao os.length co) := (blk_cell BS.out 1).trans rfl
  (try clear zBS1)
  have zBS1 : World.frozen? _ ⟨g, 1, none⟩ = false := blk_frozen BS.out 1
  go_enter Try.func12, Try.ntmps12
  go_wp2_with (first | ((with_reducible refine gate_callee (f := 30) rfl ?_); refine goesL_ (some 9) rfl rfl Try.func30 (by kernel_rfl) rfl #[.slice Ar rs.length cr] rfl (by (try simp only [List.map_toArray, List.map_cons, List.map_nil]); first | done | rfl | (simp only [List.length_drop, List.length_take]; rfl)) ?_; (refine (clone30_calls Ar cr rs _ (Kd.R_reads' HRr.out).2.2 HL.out).mono ?_); rintro e w2 ⟨v9, rfl, ho0, hb⟩; refine ⟨_, rfl, ?_⟩; have n_HB := Aside0.mk (below_step HB.out hb); have n_BS := Aside0.mk (blk_below BS.out hb); have n_HRr := Aside0.mk (Kd.R_below HRr.out hb); have n_HRo := Aside0.mk (Kd.R_below HRo.out hb); have n_HO9 := Aside0.mk (Kd.R_lower ho0 (below_size HB.out)); clear HB BS HRr HRo; have HB := n_HB; clear n_HB; have BS := n_BS; clear n_BS; have HRr := n_HRr; clear n_HRr; have HRo := n_HRo; clear n_HRo; have HO9 := n_HO9; clear n_HO9; (try clear qBS0); have qBS0 : World.cell? _ ⟨g, 0, none⟩ = some (.slice Ar rs.length cr) := (blk_cell BS.out 0).trans rfl; (try clear zBS0); have zBS0 : World.frozen? _ ⟨g, 0, none⟩ = false := blk_frozen BS.out 0; (try clear qBS1); have qBS1 : World.cell? _ ⟨g, 1, none⟩ = some (.slice Ao os.length co) := (blk_cell BS.out 1).trans rfl; (try clear zBS1); have zBS1 : World.frozen? _ ⟨g, 1, none⟩ = false := blk_frozen BS.out 1; clear hb))
  go_ret
  exact ⟨_, rfl, HO9.out, HB.out⟩
set_option maxHeartbeats 8000000 in
set_option maxRecDepth 100000 in
theorem clone33_calls (A0 : Option Addr) (c0 : Nat) (l0 : List S33) (w : World) (hr0 : Kd.C k33 w A0 l0.length l0) (hlim : l0.length ≤ 1000) :
    Calls Try.prog 33 #[.slice A0 l0.length c0] w fun e w' => ∃ v0_ : Value, e = .returned v0_ ∧ Kd.R k33 33 w' w.heap.size (fun _ => True) v0_ l0 ∧ Below w.heap.size w w' := by
  have heq := fun (W : World) => Lib.run_eql_slice_nil (P := Try.prog) W 58 33 A0 l0.length c0 0 0 Try.underlying58
  cases A0 with
  | none =>
    have hn : l0 = [] := by
      rcases Nat.eq_zero_or_pos l0.length with h | h
      · exact List.eq_nil_of_length_eq_zero h
      · obtain ⟨ad, h', _⟩ := hr0.2.2 h
        cases h'
    subst hn
    clear hr0 hlim
    simp only [Option.isNone_none, List.length_nil] at heq
    go_enter Try.func33, Try.ntmps33
    go_wp2
    go_ret
    exact ⟨_, rfl, Kd.R_nil _ _ _ _ _, Below.refl _ _⟩
  | some ad =>
    simp only [Option.isNone_some] at heq
    have HR1 := Aside0.mk hr0
    have HL := Aside0.mk hlim
    have HB := Aside0.mk (Below.refl w.heap.size w)
    clear hr0 hlim
    go_enter Try.func33, Try.ntmps33
    go_wp2_with (first | ((with_reducible refine gate_dst (N := 5) rfl ?_); refine Kd.R_lit k33 _ 33 ?hg (N := 5) ?hd (xs := ([] : List S33)) (inner := []) (ok := fun _ => True) (okp := fun _ => True) ?hr ?hp (fun _ hk => hk) trivial (Below.refl _ _) (Nat.le_refl _) (by simp) ?_; (case hd => rfl); (case hg => rfl); (case hr => first | (go_simp; done) | (go_simp; rfl)); (case hp => exact (Reps.none _ _)); intro v5 w4 ho5 hb hg_ hnew_; clear hg_ hnew_; have n_HB := Aside0.mk (below_step HB.out hb); have n_HR1 := Aside0.mk (Kd.C_below HR1.out hb); have n_HO5 := Aside0.mk (Kd.R_lower ho5 (below_size HB.out)); clear HB HR1; have HB := n_HB; clear n_HB; have HR1 := n_HR1; clear n_HR1; have HO5 := n_HO5; clear n_HO5; clear hb ho5) | ((with_reducible refine gate_builtin (b := .append) (xs := #[.tmp 5, .tmp 6]) rfl ?_); at_builtin; refine Kd.R_append_rows k33 (w0 := w) w.heap.size rfl (.tmp 5) (.tmp 6) 58 33 (.agg #[.int .i64 0, .int .i64 0, .int .i64 0, .int .i64 0, .bool false]) 40 rfl Try.underlying58 (by kernel_rfl) rfl (by decide) (by omega) v5 ([] : List S33) l0 _ _ _ (fun _ => True) (fun _ => False) rfl rfl ?aO ?aR (fun _ _ h => h) (fun _ h => h.elim) ?aF ?aB ?aS ?aL ?_; (case aR => exact HR1.out); (case aB => exact HB.out); (case aF => exact (fun _ _ => trivial)); (case aO => exact HO5.out); (case aS => exact below_size HB.out); (case aL => have := HL.out; simp only [List.length_nil]; omega); intro v7 w5 ho hb hg hat; have n0_ := Aside0.mk hb; have n1_ := Aside0.mk ho; clear HB; have HB := n0_; have HO7 := n1_; clear n0_ n1_ ho hb hg hat))
    go_ret
    exact ⟨_, rfl, by simpa using HO7.out, HB.out⟩
set_option maxHeartbeats 8000000 in
set_option maxRecDepth 100000 in
theorem ownsOf_calls (base g : Nat) (rs : List S30) (os : List S33) (w : World) (h : IsR base w g rs os) (hlim : os.length ≤ 1000) :
    Calls Try.prog 23 #[.pointer (some ⟨g, 0, none⟩)] w fun e w' => ∃ v0_ : Value, e = .returned v0_ ∧ Kd.R k33 33 w' w.heap.size (fun _ => True) v0_ os ∧ Below w.heap.size w w' := by
  obtain ⟨vr, vo, hg0, hge, hr, ho⟩ := h
  obtain ⟨Ar, cr, er⟩ := Kd.R_slice hr
  obtain ⟨Ao, co, eo⟩ := Kd.R_slice ho
  subst er eo
  have BS := Aside0.mk hg0
  have HRr := Aside0.mk hr
  have HRo := Aside0.mk ho
  have GE := Aside0.mk hge
  have HB := Aside0.mk (Below.refl w.heap.size w)
  clear hg0 hge hr ho
  have HL := Aside0.mk hlim
  clear hlim
  (try clear qBS0)
  have qBS0 : World.cell? _ ⟨g, 0, none⟩ = some (.slice Ar rs.length cr) := (blk_cell BS.out 0).trans rfl
  (try clear zBS0)
  have zBS0 : World.frozen? _ ⟨g, 0, none⟩ = false := blk_frozen BS.out 0
  (try clear qBS1)
  have qBS1 : World.cell? _ ⟨g, 1, none⟩ = some (.slice Ao os.length co) := (blk_cell BS.out 1).trans rfl
  (try clear zBS1)
  have zBS1 : World.frozen? _ ⟨g, 1, none⟩ = false := blk_frozen BS.out 1
  go_enter Try.func23, Try.ntmps23
  go_wp2_with (first | ((with_reducible refine gate_callee (f := 33) rfl ?_); refine goesL_ (some 9) rfl rfl Try.func33 (by kernel_rfl) rfl #[.slice Ao os.length co] rfl (by (try simp only [List.map_toArray, List.map_cons, List.map_nil]); first | done | rfl | (simp only [List.length_drop, List.length_take]; rfl)) ?_; (refine (clone33_calls Ao co os _ (Kd.R_reads' HRo.out).2.2 HL.out).mono ?_); rintro e w2 ⟨v9, rfl, ho0, hb⟩; refine ⟨_, rfl, ?_⟩; have n_HB := Aside0.mk (below_step HB.out hb); have n_BS := Aside0.mk (blk_below BS.out hb); have n_HRr := Aside0.mk (Kd.R_below HRr.out hb); have n_HRo := Aside0.mk (Kd.R_below HRo.out hb); have n_HO9 := Aside0.mk (Kd.R_lower ho0 (below_size HB.out)); clear HB BS HRr HRo; have HB := n_HB; clear n_HB; have BS := n_BS; clear n_BS; have HRr := n_HRr; clear n_HRr; have HRo := n_HRo; clear n_HRo; have HO9 := n_HO9; clear n_HO9; (try clear qBS0); have qBS0 : World.cell? _ ⟨g, 0, none⟩ = some (.slice Ar rs.length cr) := (blk_cell BS.out 0).trans rfl; (try clear zBS0); have zBS0 : World.frozen? _ ⟨g, 0, none⟩ = false := blk_frozen BS.out 0; (try clear qBS1); have qBS1 : World.cell? _ ⟨g, 1, none⟩ = some (.slice Ao os.length co) := (blk_cell BS.out 1).trans rfl; (try clear zBS1); have zBS1 : World.frozen? _ ⟨g, 1, none⟩ = false := blk_frozen BS.out 1; clear hb))
  go_ret
  exact ⟨_, rfl, HO9.out, HB.out⟩

end Go.Proofs.Ytfiniikeoemleaa.R
