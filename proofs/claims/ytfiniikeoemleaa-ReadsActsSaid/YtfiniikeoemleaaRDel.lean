/- slices.Delete of one reading, and Drop. Conditions: the row, the state. Printed by wip/dev/gen12f.py. -/
import Derived.Test.YtfiniikeoemleaaRAdd
import Derived.Test.YtfiniikeoemleaaRTail
namespace Go.Proofs.Ytfiniikeoemleaa.R
open Go Go.RowKit Go.Proofs.YtfiniikeoemleaaW.PrintWords Go.Proofs.YtfiniikeoemleaaW.PrintLast Go.Proofs.YtfiniikeoemleaaW.PrintMore
attribute [local go_sem] max2_int min2_int max_two min_two max_three min_three max_four min_four
set_option linter.unusedVariables false
set_option linter.unusedSimpArgs false

set_option maxHeartbeats 8000000 in
set_option maxRecDepth 100000 in
theorem delete_calls (base b c i : Nat) (l : List S30) (w : World) (hr : Kd.R k30 30 w base (fun _ => True) (.slice (some ⟨b, 0, none⟩) l.length c) l) (hi : i < l.length) (hbase : base ≤ w.heap.size) :
    Calls Try.prog 29 #[.slice (some ⟨b, 0, none⟩) l.length c, .int .i64 i, .int .i64 (i + 1)] w fun e w' => e = .returned (.slice (some ⟨b, 0, none⟩) (l.eraseIdx i).length c) ∧ Kd.R k30 30 w' base (fun _ => True) (.slice (some ⟨b, 0, none⟩) (l.eraseIdx i).length c) (l.eraseIdx i) ∧ Fr [30] w w' ∧ Below base w w' := by
  have hc : l.length ≤ c := by have := (Kd.R_reads' hr).2.1; omega
  have HR := Aside0.mk hr
  have HI := Aside0.mk hi
  have HC := Aside0.mk hc
  have HBASE := Aside0.mk hbase
  have HB := Aside0.mk (Below.refl w.heap.size w)
  have h0i : (0 : Int) ≤ (i : Int) := by omega
  have h1i : (i : Int) ≤ (i : Int) + 1 := by omega
  have h2i : (i : Int) + 1 ≤ (l.length : Int) := by omega
  have h3i : l.length ≤ c := hc
  have h5i : i ≤ c := by omega
  have h6i : (0 : Int) ≤ (i : Int) + 1 := by omega
  have h4i : ¬ (i : Int) = (i : Int) + 1 := by omega
  clear hr hi hbase
  go_enter Try.func29, Try.ntmps29
  go_upto_region 5 with (fail)
  have n_HR := Aside0.mk (Kd.R_drew HR.out); have n_HB := Aside0.mk (below_drew1 HB.out); clear HR HB; have HR := n_HR; clear n_HR; have HB := n_HB; clear n_HB
  refine start_ (n := 8) (S := fun w' => Below w.drew.heap.size w.drew w') (ds := [6]) #[false, false, false, false, false, false, false, false] (by kernel_rfl) rfl rfl (Below.refl _ _) (fun hHeld => ?_)
  generalize w.drew = wR at HR HB hHeld ⊢
  refine pure_ (i := 0) (N := (some 20)) (v := ?_) (a' := ?_) #[true, false, false, false, false, false, false, false] rfl rfl (by kernel_rfl) (fun _ _ _ h => h) (Or.inl ⟨by rfl, ?_⟩) ?_ ?_
  rotate_left
  · intro w'
    go_simp
    with_reducible rfl
  rotate_left
  · (try simp only [Act.put, List.setIfInBounds_toArray, List.set_cons_zero, List.set_cons_succ, i64_w, i32_w])
    rfl
  refine pure_ (i := 1) (N := (some 21)) (v := ?_) (a' := ?_) #[true, true, false, false, false, false, false, false] rfl rfl (by kernel_rfl) (fun _ _ _ h => h) (Or.inl ⟨by rfl, ?_⟩) ?_ ?_
  rotate_left
  · intro w'
    go_simp
    with_reducible rfl
  rotate_left
  · (try simp only [Act.put, List.setIfInBounds_toArray, List.set_cons_zero, List.set_cons_succ, i64_w, i32_w])
    rfl
  refine pure_ (i := 2) (N := (some 22)) (v := ?_) (a' := ?_) #[true, true, true, false, false, false, false, false] rfl rfl (by kernel_rfl) (fun _ _ _ h => h) (Or.inl ⟨by rfl, ?_⟩) ?_ ?_
  rotate_left
  · intro w'
    go_simp
    with_reducible rfl
  rotate_left
  · (try simp only [Act.put, List.setIfInBounds_toArray, List.set_cons_zero, List.set_cons_succ, i64_w, i32_w])
    rfl
  refine pure_ (i := 3) (N := (some 23)) (v := ?_) (a' := ?_) #[true, true, true, true, false, false, false, false] rfl rfl (by kernel_rfl) (fun _ _ _ h => h) (Or.inl ⟨by rfl, ?_⟩) ?_ ?_
  rotate_left
  · intro w'
    go_simp
    with_reducible rfl
  rotate_left
  · (try simp only [Act.put, List.setIfInBounds_toArray, List.set_cons_zero, List.set_cons_succ, i64_w, i32_w])
    rfl
  refine pure_ (i := 4) (N := (some 24)) (v := ?_) (a' := ?_) #[true, true, true, true, true, false, false, false] rfl rfl (by kernel_rfl) (fun _ _ _ h => h) (Or.inl ⟨by rfl, ?_⟩) ?_ ?_
  rotate_left
  · intro w'
    go_simp
    with_reducible rfl
  rotate_left
  · (try simp only [Act.put, List.setIfInBounds_toArray, List.set_cons_zero, List.set_cons_succ, i64_w, i32_w])
    rfl
  refine pure_ (i := 5) (N := (some 25)) (v := ?_) (a' := ?_) #[true, true, true, true, true, true, false, false] rfl rfl (by kernel_rfl) (fun _ _ _ h => h) (Or.inl ⟨by rfl, ?_⟩) ?_ ?_
  rotate_left
  · intro w'
    go_simp
    with_reducible rfl
  rotate_left
  · (try simp only [Act.put, List.setIfInBounds_toArray, List.set_cons_zero, List.set_cons_succ, i64_w, i32_w])
    rfl
  refine last_ (i := 6) (N := (some 26)) #[true, true, true, true, true, true, true, false] rfl rfl (by kernel_rfl) (by decide) (fun K hK => ?_)
  obtain ⟨w5, hrun, hr5, hg5⟩ := append30 35 (c - (i + 1)) HR.out HI.out
  refine event_step (by rfl) (exec_append rfl rfl rfl hrun) ?_
  have n1 := Aside0.mk hr5; have n2 := Aside0.mk ((Fr.of_below HB.out : Fr [30] w wR).trans (fr_row HR.out hg5)); have n3 := Aside0.mk (below_row HR.out (HB.out.mono HBASE.out) (Nat.le_trans HBASE.out (below_size HB.out)) hg5); have n4 := Aside0.mk (Nat.le_trans (below_size HB.out) hg5.size)
  clear HR hr5 hg5 hrun HB
  have HR := n1; have HFR := n2; have HB := n3; have HSZ := n4; clear n1 n2 n3 n4
  generalize hnl : l.eraseIdx i = nl at HR ⊢
  have HNL := Aside0.mk hnl; clear hnl
  refine hK.out _ _ ?_
  clear hK K
  refine norm_ (a' := ?_) ?_ ?_
  rotate_left
  · show Act.put _ (some 26) _ = _
    (try simp only [Act.put, List.setIfInBounds_toArray, List.set_cons_zero, List.set_cons_succ, i64_w, i32_w])
    rfl
  refine pure_ (i := 7) (N := (some 0)) (v := ?_) (a' := ?_) #[true, true, true, true, true, true, true, true] rfl rfl (by kernel_rfl) (fun _ _ _ h => h) (Or.inl ⟨by rfl, ?_⟩) ?_ ?_
  rotate_left
  · intro w'
    go_simp
    with_reducible rfl
  rotate_left
  · (try simp only [Act.put, List.setIfInBounds_toArray, List.set_cons_zero, List.set_cons_succ, i64_w, i32_w])
    rfl
  refine done_ (by kernel_rfl) ?_
  generalize (if c = i + 1 then (some (⟨b, 0, none⟩ : Addr)) else some ⟨b, (i + 1) * 3, none⟩) = pp
  go_upto_region 6 with (fail)
  have hnl1 : nl.length + 1 = l.length := by have := HI.out; rw [← HNL.out, List.length_eraseIdx, if_pos HI.out]; omega
  have f1 : ¬ c = nl.length := by have := HC.out; omega
  have f2 : (0 : Int) ≤ (nl.length : Int) := by omega
  have f3 : (nl.length : Int) ≤ (l.length : Int) := by omega
  have f4 : nl.length ≤ l.length := by omega
  have f5 : nl.length + (l.length - nl.length) ≤ c := by have := HC.out; omega
  go_wp2_with (((with_reducible refine gate_builtin (b := .clear) (xs := #[.tmp 31]) rfl ?_); obtain ⟨w6, hrun, hr6, hg6⟩ := clear30 (m := l.length - nl.length) (c := c - nl.length) 0 HR.out f5; refine Kd.event_run rfl (exec_clear rfl rfl hrun) ?_))
  all_goals go_ret
  all_goals exact ⟨by rw [HNL.out]; rfl, by rw [HNL.out]; exact hr6, HFR.out.trans (fr_row HR.out hg6), below_row HR.out HB.out (Nat.le_trans HBASE.out HSZ.out) hg6⟩
set_option maxHeartbeats 8000000 in
set_option maxRecDepth 100000 in
theorem drop_miss (base g : Nat) (rs : List S30) (os : List S33) (o : Int) (w : World) (h : IsR base w g rs os) (hf : find30 rs o = -1) :
    Calls Try.prog 11 #[.pointer (some ⟨g, 0, none⟩), .int .i64 o] w fun e w' => e = .returned (.bool false) ∧ Below w.heap.size w w' := by
  obtain ⟨vr, vo, hg0, hge, hr, ho⟩ := h
  obtain ⟨Ar, cr, er⟩ := Kd.R_slice hr
  obtain ⟨Ao, co, eo⟩ := Kd.R_slice ho
  subst er eo
  have BS := Aside0.mk hg0
  have HRr := Aside0.mk hr
  have HRo := Aside0.mk ho
  have GE := Aside0.mk hge
  have HB := Aside0.mk (Below.refl w.heap.size w)
  clear hg0 hge hr ho
  have HF := Aside0.mk hf
  clear hf
  (try clear qBS0)
  have qBS0 : World.cell? _ ⟨g, 0, none⟩ = some (.slice Ar rs.length cr) := (blk_cell BS.out 0).trans rfl
  (try clear zBS0)
  have zBS0 : World.frozen? _ ⟨g, 0, none⟩ = false := blk_frozen BS.out 0
  (try clear qBS1)
  have qBS1 : World.cell? _ ⟨g, 1, none⟩ = some (.slice Ao os.length co) := (blk_cell BS.out 1).trans rfl
  (try clear zBS1)
  have zBS1 : World.frozen? _ ⟨g, 1, none⟩ = false := blk_frozen BS.out 1
  go_enter Try.func11, Try.ntmps11
  go_wp2_with (first | ((with_reducible refine gate_callee (f := 25) rfl ?_); refine goesL_ (some 13) rfl rfl Try.func25 (by kernel_rfl) rfl #[.slice Ar rs.length cr, .func (.func 26) #[] #[], .int .i64 o] rfl (by (try simp only [List.map_toArray, List.map_cons, List.map_nil]); first | done | rfl | (simp only [List.length_drop, List.length_take]; rfl)) ?_; (refine (find30_callsE Ar cr rs o (-1) _ (Kd.R_reads' HRr.out).2.2 HF.out).mono ?_); rintro e w2 ⟨rfl, hb⟩; refine ⟨_, rfl, ?_⟩; have n_HB := Aside0.mk (below_step HB.out hb); have n_BS := Aside0.mk (blk_below BS.out hb); have n_HRr := Aside0.mk (Kd.R_below HRr.out hb); have n_HRo := Aside0.mk (Kd.R_below HRo.out hb); clear HB BS HRr HRo; have HB := n_HB; clear n_HB; have BS := n_BS; clear n_BS; have HRr := n_HRr; clear n_HRr; have HRo := n_HRo; clear n_HRo; (try clear qBS0); have qBS0 : World.cell? _ ⟨g, 0, none⟩ = some (.slice Ar rs.length cr) := (blk_cell BS.out 0).trans rfl; (try clear zBS0); have zBS0 : World.frozen? _ ⟨g, 0, none⟩ = false := blk_frozen BS.out 0; (try clear qBS1); have qBS1 : World.cell? _ ⟨g, 1, none⟩ = some (.slice Ao os.length co) := (blk_cell BS.out 1).trans rfl; (try clear zBS1); have zBS1 : World.frozen? _ ⟨g, 1, none⟩ = false := blk_frozen BS.out 1; clear hb))
  go_ret
  exact ⟨rfl, HB.out⟩

set_option maxHeartbeats 8000000 in
set_option maxRecDepth 100000 in
theorem drop_hit (base g k : Nat) (rs : List S30) (os : List S33) (o : Int) (w : World) (h : IsR base w g rs os) (hbase : base ≤ w.heap.size) (hk : k < rs.length) (hl : rs.length ≤ 1000) (hf : find30 rs o = k) :
    Calls Try.prog 11 #[.pointer (some ⟨g, 0, none⟩), .int .i64 o] w fun e w' => e = .returned (.bool true) ∧ IsR base w' g (rs.eraseIdx k) os ∧ Fr [64, 30] w w' ∧ Below base w w' := by
  obtain ⟨vr, vo, hg0, hge, hr, ho⟩ := h
  obtain ⟨Ar, cr, er⟩ := Kd.R_slice hr
  obtain ⟨Ao, co, eo⟩ := Kd.R_slice ho
  subst er eo
  have BS := Aside0.mk hg0
  have HRr := Aside0.mk hr
  have HRo := Aside0.mk ho
  have GE := Aside0.mk hge
  have HB := Aside0.mk (Below.refl w.heap.size w)
  clear hg0 hge hr ho
  have HF := Aside0.mk hf
  have HK := Aside0.mk hk
  have HL := Aside0.mk hl
  have HBASE := Aside0.mk hbase
  have h0k : (0 : Int) ≤ (k : Int) := by omega
  clear hf hk hbase
  (try clear qBS0)
  have qBS0 : World.cell? _ ⟨g, 0, none⟩ = some (.slice Ar rs.length cr) := (blk_cell BS.out 0).trans rfl
  (try clear zBS0)
  have zBS0 : World.frozen? _ ⟨g, 0, none⟩ = false := blk_frozen BS.out 0
  (try clear qBS1)
  have qBS1 : World.cell? _ ⟨g, 1, none⟩ = some (.slice Ao os.length co) := (blk_cell BS.out 1).trans rfl
  (try clear zBS1)
  have zBS1 : World.frozen? _ ⟨g, 1, none⟩ = false := blk_frozen BS.out 1
  go_enter Try.func11, Try.ntmps11
  go_upto_region 5 with (first | ((with_reducible refine gate_callee (f := 25) rfl ?_); refine goesL_ (some 13) rfl rfl Try.func25 (by kernel_rfl) rfl #[.slice Ar rs.length cr, .func (.func 26) #[] #[], .int .i64 o] rfl (by (try simp only [List.map_toArray, List.map_cons, List.map_nil]); first | done | rfl | (simp only [List.length_drop, List.length_take]; rfl)) ?_; (refine (find30_callsE Ar cr rs o (k : Int) _ (Kd.R_reads' HRr.out).2.2 HF.out).mono ?_); rintro e w2 ⟨rfl, hb⟩; refine ⟨_, rfl, ?_⟩; have n_HB := Aside0.mk (below_step HB.out hb); have n_BS := Aside0.mk (blk_below BS.out hb); have n_HRr := Aside0.mk (Kd.R_below HRr.out hb); have n_HRo := Aside0.mk (Kd.R_below HRo.out hb); clear HB BS HRr HRo; have HB := n_HB; clear n_HB; have BS := n_BS; clear n_BS; have HRr := n_HRr; clear n_HRr; have HRo := n_HRo; clear n_HRo; (try clear qBS0); have qBS0 : World.cell? _ ⟨g, 0, none⟩ = some (.slice Ar rs.length cr) := (blk_cell BS.out 0).trans rfl; (try clear zBS0); have zBS0 : World.frozen? _ ⟨g, 0, none⟩ = false := blk_frozen BS.out 0; (try clear qBS1); have qBS1 : World.cell? _ ⟨g, 1, none⟩ = some (.slice Ao os.length co) := (blk_cell BS.out 1).trans rfl; (try clear zBS1); have zBS1 : World.frozen? _ ⟨g, 1, none⟩ = false := blk_frozen BS.out 1; clear hb))
  obtain ⟨b, eb, hbb⟩ := block30 HRr.out HK.out
  subst eb
  (try clear qBS0); have qBS0 : World.cell? _ ⟨g, 0, none⟩ = some (.slice (some ⟨b, 0, none⟩) rs.length cr) := (blk_cell BS.out 0).trans rfl; (try clear zBS0); have zBS0 : World.frozen? _ ⟨g, 0, none⟩ = false := blk_frozen BS.out 0; (try clear qBS1); have qBS1 : World.cell? _ ⟨g, 1, none⟩ = some (.slice Ao os.length co) := (blk_cell BS.out 1).trans rfl; (try clear zBS1); have zBS1 : World.frozen? _ ⟨g, 1, none⟩ = false := blk_frozen BS.out 1
  have hk1 : (k : Int) + 1 ≤ 9223372036854775807 := by have := HK.out; omega
  go_wp2_with (first | ((with_reducible refine gate_callee (f := 29) rfl ?_); refine goesL_ (some 24) rfl rfl Try.func29 (by kernel_rfl) rfl #[.slice (some ⟨b, 0, none⟩) rs.length cr, .int .i64 k, .int .i64 (k + 1)] rfl (by (try simp only [List.map_toArray, List.map_cons, List.map_nil]); first | done | rfl | (simp only [List.length_drop, List.length_take]; rfl)) ?_; (refine (delete_calls base b cr k rs _ HRr.out HK.out (Nat.le_trans HBASE.out (below_size HB.out))).mono ?_); rintro e w3 ⟨rfl, hrr, hfr, hbb⟩; refine ⟨_, rfl, ?_⟩; have n1 := Aside0.mk (hfr.blk BS.out (by decide)); have n2 := Aside0.mk hrr; have n3 := Aside0.mk (R_fr rfl HRo.out hfr (by decide)); have n4 := Aside0.mk ((Fr.of_below HB.out).trans hfr); have n5 := Aside0.mk ((HB.out.mono HBASE.out).trans hbb); clear BS HRr HRo HB hfr hbb hrr; have BS := n1; have HRr := n2; have HRo := n3; have HFR := n4; have HB := n5; clear n1 n2 n3 n4 n5; generalize hnl : rs.eraseIdx k = nl at HRr ⊢; have HNL := Aside0.mk hnl; clear hnl; (try clear qBS0); have qBS0 : World.cell? _ ⟨g, 0, none⟩ = some (.slice (some ⟨b, 0, none⟩) rs.length cr) := (blk_cell BS.out 0).trans rfl; (try clear zBS0); have zBS0 : World.frozen? _ ⟨g, 0, none⟩ = false := blk_frozen BS.out 0; (try clear qBS1); have qBS1 : World.cell? _ ⟨g, 1, none⟩ = some (.slice Ao os.length co) := (blk_cell BS.out 1).trans rfl; (try clear zBS1); have zBS1 : World.frozen? _ ⟨g, 1, none⟩ = false := blk_frozen BS.out 1))
  go_ret
  have hs : Fr [64] w3 (w3.setCell ⟨g, 0, none⟩ (.slice (some ⟨b, 0, none⟩) nl.length cr)) := (Fr.refl _ _).set BS.out (by decide) _
  rw [HNL.out]
  exact ⟨rfl, ⟨_, _, blk_put BS.out 0 _ rfl, GE.out, R_fr rfl HRr.out hs (by decide), R_fr rfl HRo.out hs (by decide)⟩, (HFR.out.mono (fun t ht => by simp at ht; simp [ht])).set BS.out (by decide) _, HB.out.setCell GE.out _⟩

end Go.Proofs.Ytfiniikeoemleaa.R
