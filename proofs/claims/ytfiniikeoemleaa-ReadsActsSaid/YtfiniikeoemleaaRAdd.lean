/- Add and Put: a row of the set is longer by one, or as it was. Conditions: the state, and that the rows are short. Printed by wip/dev/gen12d.py. -/
import Derived.Test.YtfiniikeoemleaaRClone
import Derived.Test.YtfiniikeoemleaaRRow
namespace Go.Proofs.Ytfiniikeoemleaa.R
open Go Go.RowKit Go.Proofs.YtfiniikeoemleaaW.PrintWords Go.Proofs.YtfiniikeoemleaaW.PrintLast Go.Proofs.YtfiniikeoemleaaW.PrintMore
attribute [local go_sem] max2_int min2_int max_two min_two max_three min_three max_four min_four
set_option linter.unusedVariables false
set_option linter.unusedSimpArgs false

set_option maxHeartbeats 8000000 in
set_option maxRecDepth 100000 in
theorem add_miss (base g : Nat) (rs : List S30) (os : List S33) (x : S30) (w : World) (h : IsR base w g rs os) (hbase : base ≤ w.heap.size) (hl : rs.length ≤ 1000) (hf : find30 rs x.f0 = -1) :
    Calls Try.prog 9 #[.pointer (some ⟨g, 0, none⟩), .agg #[.int .i64 x.f0, .int .i64 x.f1, .int .i64 x.f2]] w fun e w' => e = .returned (.int .i64 0) ∧ IsR base w' g (rs ++ [x]) os ∧ Fr [64, 30] w w' ∧ Below base w w' := by
  obtain ⟨vr, vo, hg0, hge, hr, ho⟩ := h
  obtain ⟨Ar, cr, er⟩ := Kd.R_slice hr
  obtain ⟨Ao, co, eo⟩ := Kd.R_slice ho
  subst er eo
  have BS := Aside0.mk hg0
  have HRr := Aside0.mk hr
  have HRo := Aside0.mk ho
  have GE := Aside0.mk hge
  have HB := Aside0.mk (Below.refl w.heap.size w)
  clear hg0 hge hr ho
  have HL := Aside0.mk hl
  have HF := Aside0.mk hf
  have HBASE := Aside0.mk hbase
  have hu := Try.underlying30
  obtain ⟨nl, hnl⟩ : ∃ l : List S30, l = rs ++ [x] := ⟨_, rfl⟩
  rw [← hnl]
  have HNL := Aside0.mk hnl
  clear hl hf hbase hnl
  (try clear qBS0)
  have qBS0 : World.cell? _ ⟨g, 0, none⟩ = some (.slice Ar rs.length cr) := (blk_cell BS.out 0).trans rfl
  (try clear zBS0)
  have zBS0 : World.frozen? _ ⟨g, 0, none⟩ = false := blk_frozen BS.out 0
  (try clear qBS1)
  have qBS1 : World.cell? _ ⟨g, 1, none⟩ = some (.slice Ao os.length co) := (blk_cell BS.out 1).trans rfl
  (try clear zBS1)
  have zBS1 : World.frozen? _ ⟨g, 1, none⟩ = false := blk_frozen BS.out 1
  go_enter Try.func9, Try.ntmps9
  go_upto_region 3 with (first | ((with_reducible refine gate_dst (N := 3) rfl ?_); refine box_event ?hg (N := 3) ?hd (cs := #[.int .i64 x.f0, .int .i64 x.f1, .int .i64 x.f2]) (t := 30) ?hr ?_; (case hd => rfl); (case hg => rfl); (case hr => first | (go_simp; done) | (go_simp; rfl)); intro gx hg w1 hbox hb; have n_HB := Aside0.mk (below_step HB.out hb); have n_BS := Aside0.mk (blk_below BS.out hb); have n_HRr := Aside0.mk (Kd.R_below HRr.out hb); have n_HRo := Aside0.mk (Kd.R_below HRo.out hb); have n_BK := Aside0.mk (hbox); clear HB BS HRr HRo; have HB := n_HB; clear n_HB; have BS := n_BS; clear n_BS; have HRr := n_HRr; clear n_HRr; have HRo := n_HRo; clear n_HRo; have BK := n_BK; clear n_BK; (try clear qBS0); have qBS0 : World.cell? _ ⟨g, 0, none⟩ = some (.slice Ar rs.length cr) := (blk_cell BS.out 0).trans rfl; (try clear zBS0); have zBS0 : World.frozen? _ ⟨g, 0, none⟩ = false := blk_frozen BS.out 0; (try clear qBS1); have qBS1 : World.cell? _ ⟨g, 1, none⟩ = some (.slice Ao os.length co) := (blk_cell BS.out 1).trans rfl; (try clear zBS1); have zBS1 : World.frozen? _ ⟨g, 1, none⟩ = false := blk_frozen BS.out 1; (try clear qBK0); have qBK0 : World.cell? _ ⟨gx, 0, none⟩ = some (.int .i64 x.f0) := (blk_cell BK.out 0).trans rfl; (try clear zBK0); have zBK0 : World.frozen? _ ⟨gx, 0, none⟩ = false := blk_frozen BK.out 0; (try clear qBK1); have qBK1 : World.cell? _ ⟨gx, 1, none⟩ = some (.int .i64 x.f1) := (blk_cell BK.out 1).trans rfl; (try clear zBK1); have zBK1 : World.frozen? _ ⟨gx, 1, none⟩ = false := blk_frozen BK.out 1; (try clear qBK2); have qBK2 : World.cell? _ ⟨gx, 2, none⟩ = some (.int .i64 x.f2) := (blk_cell BK.out 2).trans rfl; (try clear zBK2); have zBK2 : World.frozen? _ ⟨gx, 2, none⟩ = false := blk_frozen BK.out 2; clear hbox hb; (try clear hg)))
  have n_HB := Aside0.mk (below_drew1 HB.out); have n_BS := Aside0.mk (blk_drew BS.out); have n_HRr := Aside0.mk (Kd.R_drew HRr.out); have n_HRo := Aside0.mk (Kd.R_drew HRo.out); have n_BK := Aside0.mk (blk_drew BK.out); clear HB BS HRr HRo BK; have HB := n_HB; clear n_HB; have BS := n_BS; clear n_BS; have HRr := n_HRr; clear n_HRr; have HRo := n_HRo; clear n_HRo; have BK := n_BK; clear n_BK; (try clear qBS0); have qBS0 : World.cell? _ ⟨g, 0, none⟩ = some (.slice Ar rs.length cr) := (blk_cell BS.out 0).trans rfl; (try clear zBS0); have zBS0 : World.frozen? _ ⟨g, 0, none⟩ = false := blk_frozen BS.out 0; (try clear qBS1); have qBS1 : World.cell? _ ⟨g, 1, none⟩ = some (.slice Ao os.length co) := (blk_cell BS.out 1).trans rfl; (try clear zBS1); have zBS1 : World.frozen? _ ⟨g, 1, none⟩ = false := blk_frozen BS.out 1; (try clear qBK0); have qBK0 : World.cell? _ ⟨gx, 0, none⟩ = some (.int .i64 x.f0) := (blk_cell BK.out 0).trans rfl; (try clear zBK0); have zBK0 : World.frozen? _ ⟨gx, 0, none⟩ = false := blk_frozen BK.out 0; (try clear qBK1); have qBK1 : World.cell? _ ⟨gx, 1, none⟩ = some (.int .i64 x.f1) := (blk_cell BK.out 1).trans rfl; (try clear zBK1); have zBK1 : World.frozen? _ ⟨gx, 1, none⟩ = false := blk_frozen BK.out 1; (try clear qBK2); have qBK2 : World.cell? _ ⟨gx, 2, none⟩ = some (.int .i64 x.f2) := (blk_cell BK.out 2).trans rfl; (try clear zBK2); have zBK2 : World.frozen? _ ⟨gx, 2, none⟩ = false := blk_frozen BK.out 2
  refine start_ (n := 9) (S := fun w' => Below w1.drew.heap.size w1.drew w') (ds := []) #[false, false, false, false, false, false, false, false, false] (by kernel_rfl) rfl rfl (Below.refl _ _) (fun hHeld => ?_)
  generalize w1.drew = wR at HB BS HRr HRo BK hHeld ⊢
  refine pure_ (i := 0) (N := (some 9)) (v := ?_) (a' := ?_) #[true, false, false, false, false, false, false, false, false] rfl rfl (by kernel_rfl) (fun _ _ _ h => h) (Or.inl ⟨by rfl, ?_⟩) ?_ ?_
  rotate_left
  · intro w'
    go_simp
    with_reducible rfl
  rotate_left
  · (try simp only [Act.put, List.setIfInBounds_toArray, List.set_cons_zero, List.set_cons_succ, i64_w, i32_w])
    rfl
  refine pure_ (i := 1) (N := (some 10)) (v := ?_) (a' := ?_) #[true, true, false, false, false, false, false, false, false] rfl rfl (by kernel_rfl) (fun _ _ _ h => h) (Or.inl ⟨by rfl, ?_⟩) ?_ ?_
  rotate_left
  · intro w'
    go_simp
    with_reducible rfl
  rotate_left
  · (try simp only [Act.put, List.setIfInBounds_toArray, List.set_cons_zero, List.set_cons_succ, i64_w, i32_w])
    rfl
  refine pure_ (i := 2) (N := (some 11)) (v := ?_) (a' := ?_) #[true, true, true, false, false, false, false, false, false] rfl rfl (by kernel_rfl) (fun _ _ _ h => h) (Or.inl ⟨by rfl, ?_⟩) ?_ ?_
  rotate_left
  · intro w'
    go_simp
    with_reducible rfl
  rotate_left
  · (try simp only [Act.put, List.setIfInBounds_toArray, List.set_cons_zero, List.set_cons_succ, i64_w, i32_w])
    rfl
  refine take_ (i := 3) (N := some 12) (v := ?_) (a' := ?_) #[true, true, true, true, false, false, false, false, false] rfl rfl (by kernel_rfl) (fun _ _ _ h => h) (Or.inl ⟨by rfl, ?_⟩) hHeld ?_ ?_
  rotate_left
  · intro w' s0
    have q0 : World.cell? w' ⟨g, 0, none⟩ = some (.slice Ar rs.length cr) := (blk_cell (blk_below BS.out s0) 0).trans rfl
    have q1 : World.cell? w' ⟨g, 1, none⟩ = some (.slice Ao os.length co) := (blk_cell (blk_below BS.out s0) 1).trans rfl
    go_simp
    with_reducible rfl
  rotate_left
  · (try simp only [Act.put, List.setIfInBounds_toArray, List.set_cons_zero, List.set_cons_succ, i64_w, i32_w])
    rfl
  refine pure_ (i := 4) (N := (some 13)) (v := ?_) (a' := ?_) #[true, true, true, true, true, false, false, false, false] rfl rfl (by kernel_rfl) (fun _ _ _ h => h) (Or.inl ⟨by rfl, ?_⟩) ?_ ?_
  rotate_left
  · intro w'
    go_simp
    with_reducible rfl
  rotate_left
  · (try simp only [Act.put, List.setIfInBounds_toArray, List.set_cons_zero, List.set_cons_succ, i64_w, i32_w])
    rfl
  refine take_ (i := 5) (N := some 14) (v := ?_) (a' := ?_) #[true, true, true, true, true, true, false, false, false] rfl rfl (by kernel_rfl) (fun _ _ _ h => h) (Or.inl ⟨by rfl, ?_⟩) hHeld ?_ ?_
  rotate_left
  · intro w' s0
    have q0 : World.cell? w' ⟨gx, 0, none⟩ = some (.int .i64 x.f0) := (blk_cell (blk_below BK.out s0) 0).trans rfl
    have q1 : World.cell? w' ⟨gx, 1, none⟩ = some (.int .i64 x.f1) := (blk_cell (blk_below BK.out s0) 1).trans rfl
    have q2 : World.cell? w' ⟨gx, 2, none⟩ = some (.int .i64 x.f2) := (blk_cell (blk_below BK.out s0) 2).trans rfl
    go_simp
    with_reducible rfl
  rotate_left
  · (try simp only [Act.put, List.setIfInBounds_toArray, List.set_cons_zero, List.set_cons_succ, i64_w, i32_w])
    rfl
  refine one_ (i := 6) (N := (some 15)) #[true, true, true, true, true, true, true, false, false] rfl rfl (by kernel_rfl) (by decide) (fun K hK => ?_)
  refine goes_ Try.func25 (by kernel_rfl) rfl #[.slice Ar rs.length cr, .func (.func 26) #[] #[], .int .i64 x.f0] (by rfl) rfl rfl (by (try simp only [List.map_toArray, List.map_cons, List.map_nil]); first | done | rfl | (simp only [List.length_drop, List.length_take]; rfl)) ?_
  refine (find30_callsE Ar cr rs x.f0 (-1) _ (Kd.R_reads' HRr.out).2.2 HF.out).mono ?_
  rintro e w4 ⟨rfl, hb⟩
  refine ⟨_, rfl, ?_⟩
  have hh := below_step hHeld hb; clear hHeld; have hHeld := hh; clear hh
  have n_HB := Aside0.mk (below_step HB.out hb); have n_BS := Aside0.mk (blk_below BS.out hb); have n_HRr := Aside0.mk (Kd.R_below HRr.out hb); have n_HRo := Aside0.mk (Kd.R_below HRo.out hb); have n_BK := Aside0.mk (blk_below BK.out hb); clear HB BS HRr HRo BK; have HB := n_HB; clear n_HB; have BS := n_BS; clear n_BS; have HRr := n_HRr; clear n_HRr; have HRo := n_HRo; clear n_HRo; have BK := n_BK; clear n_BK; (try clear qBS0); have qBS0 : World.cell? _ ⟨g, 0, none⟩ = some (.slice Ar rs.length cr) := (blk_cell BS.out 0).trans rfl; (try clear zBS0); have zBS0 : World.frozen? _ ⟨g, 0, none⟩ = false := blk_frozen BS.out 0; (try clear qBS1); have qBS1 : World.cell? _ ⟨g, 1, none⟩ = some (.slice Ao os.length co) := (blk_cell BS.out 1).trans rfl; (try clear zBS1); have zBS1 : World.frozen? _ ⟨g, 1, none⟩ = false := blk_frozen BS.out 1; (try clear qBK0); have qBK0 : World.cell? _ ⟨gx, 0, none⟩ = some (.int .i64 x.f0) := (blk_cell BK.out 0).trans rfl; (try clear zBK0); have zBK0 : World.frozen? _ ⟨gx, 0, none⟩ = false := blk_frozen BK.out 0; (try clear qBK1); have qBK1 : World.cell? _ ⟨gx, 1, none⟩ = some (.int .i64 x.f1) := (blk_cell BK.out 1).trans rfl; (try clear zBK1); have zBK1 : World.frozen? _ ⟨gx, 1, none⟩ = false := blk_frozen BK.out 1; (try clear qBK2); have qBK2 : World.cell? _ ⟨gx, 2, none⟩ = some (.int .i64 x.f2) := (blk_cell BK.out 2).trans rfl; (try clear zBK2); have zBK2 : World.frozen? _ ⟨gx, 2, none⟩ = false := blk_frozen BK.out 2
  clear hb
  refine hK.out _ _ hHeld (fun _ => ?_)
  clear hK K
  refine norm_ (a' := ?_) ?_ ?_
  rotate_left
  · show Act.put _ (some 15) _ = _
    (try simp only [Act.put, List.setIfInBounds_toArray, List.set_cons_zero, List.set_cons_succ, i64_w, i32_w])
    rfl
  refine pure_ (i := 7) (N := (some 16)) (v := ?_) (a' := ?_) #[true, true, true, true, true, true, true, true, false] rfl rfl (by kernel_rfl) (fun _ _ _ h => h) (Or.inl ⟨by rfl, ?_⟩) ?_ ?_
  rotate_left
  · intro w'
    go_simp
    with_reducible rfl
  rotate_left
  · (try simp only [Act.put, List.setIfInBounds_toArray, List.set_cons_zero, List.set_cons_succ, i64_w, i32_w])
    rfl
  refine pure_ (i := 8) (N := (some 8)) (v := ?_) (a' := ?_) #[true, true, true, true, true, true, true, true, true] rfl rfl (by kernel_rfl) (fun _ _ _ h => h) (Or.inl ⟨by rfl, ?_⟩) ?_ ?_
  rotate_left
  · intro w'
    go_simp
    with_reducible rfl
  rotate_left
  · (try simp only [Act.put, List.setIfInBounds_toArray, List.set_cons_zero, List.set_cons_succ, i64_w, i32_w])
    rfl
  refine done_ (by kernel_rfl) ?_
  (try clear qBS0)
  have qBS0 : World.cell? _ ⟨g, 0, none⟩ = some (.slice Ar rs.length cr) := (blk_cell BS.out 0).trans rfl
  (try clear zBS0)
  have zBS0 : World.frozen? _ ⟨g, 0, none⟩ = false := blk_frozen BS.out 0
  (try clear qBS1)
  have qBS1 : World.cell? _ ⟨g, 1, none⟩ = some (.slice Ao os.length co) := (blk_cell BS.out 1).trans rfl
  (try clear zBS1)
  have zBS1 : World.frozen? _ ⟨g, 1, none⟩ = false := blk_frozen BS.out 1
  (try clear qBK0)
  have qBK0 : World.cell? _ ⟨gx, 0, none⟩ = some (.int .i64 x.f0) := (blk_cell BK.out 0).trans rfl
  (try clear zBK0)
  have zBK0 : World.frozen? _ ⟨gx, 0, none⟩ = false := blk_frozen BK.out 0
  (try clear qBK1)
  have qBK1 : World.cell? _ ⟨gx, 1, none⟩ = some (.int .i64 x.f1) := (blk_cell BK.out 1).trans rfl
  (try clear zBK1)
  have zBK1 : World.frozen? _ ⟨gx, 1, none⟩ = false := blk_frozen BK.out 1
  (try clear qBK2)
  have qBK2 : World.cell? _ ⟨gx, 2, none⟩ = some (.int .i64 x.f2) := (blk_cell BK.out 2).trans rfl
  (try clear zBK2)
  have zBK2 : World.frozen? _ ⟨gx, 2, none⟩ = false := blk_frozen BK.out 2
  go_upto_region 5 with (fail)
  have n_HB := Aside0.mk (below_drew1 HB.out); have n_BS := Aside0.mk (blk_drew BS.out); have n_HRr := Aside0.mk (Kd.R_drew HRr.out); have n_HRo := Aside0.mk (Kd.R_drew HRo.out); have n_BK := Aside0.mk (blk_drew BK.out); clear HB BS HRr HRo BK; have HB := n_HB; clear n_HB; have BS := n_BS; clear n_BS; have HRr := n_HRr; clear n_HRr; have HRo := n_HRo; clear n_HRo; have BK := n_BK; clear n_BK; (try clear qBS0); have qBS0 : World.cell? _ ⟨g, 0, none⟩ = some (.slice Ar rs.length cr) := (blk_cell BS.out 0).trans rfl; (try clear zBS0); have zBS0 : World.frozen? _ ⟨g, 0, none⟩ = false := blk_frozen BS.out 0; (try clear qBS1); have qBS1 : World.cell? _ ⟨g, 1, none⟩ = some (.slice Ao os.length co) := (blk_cell BS.out 1).trans rfl; (try clear zBS1); have zBS1 : World.frozen? _ ⟨g, 1, none⟩ = false := blk_frozen BS.out 1; (try clear qBK0); have qBK0 : World.cell? _ ⟨gx, 0, none⟩ = some (.int .i64 x.f0) := (blk_cell BK.out 0).trans rfl; (try clear zBK0); have zBK0 : World.frozen? _ ⟨gx, 0, none⟩ = false := blk_frozen BK.out 0; (try clear qBK1); have qBK1 : World.cell? _ ⟨gx, 1, none⟩ = some (.int .i64 x.f1) := (blk_cell BK.out 1).trans rfl; (try clear zBK1); have zBK1 : World.frozen? _ ⟨gx, 1, none⟩ = false := blk_frozen BK.out 1; (try clear qBK2); have qBK2 : World.cell? _ ⟨gx, 2, none⟩ = some (.int .i64 x.f2) := (blk_cell BK.out 2).trans rfl; (try clear zBK2); have zBK2 : World.frozen? _ ⟨gx, 2, none⟩ = false := blk_frozen BK.out 2
  refine start_ (n := 11) (S := fun w' => Below w4.drew.heap.size w4.drew w') (ds := [7, 10]) #[false, false, false, false, false, false, false, false, false, false, false] (by kernel_rfl) rfl rfl (Below.refl _ _) (fun hHeld => ?_)
  generalize w4.drew = wS at HB BS HRr HRo BK hHeld ⊢
  refine pure_ (i := 0) (N := (some 17)) (v := ?_) (a' := ?_) #[true, false, false, false, false, false, false, false, false, false, false] rfl rfl (by kernel_rfl) (fun _ _ _ h => h) (Or.inl ⟨by rfl, ?_⟩) ?_ ?_
  rotate_left
  · intro w'
    go_simp
    with_reducible rfl
  rotate_left
  · (try simp only [Act.put, List.setIfInBounds_toArray, List.set_cons_zero, List.set_cons_succ, i64_w, i32_w])
    rfl
  refine pure_ (i := 1) (N := (some 18)) (v := ?_) (a' := ?_) #[true, true, false, false, false, false, false, false, false, false, false] rfl rfl (by kernel_rfl) (fun _ _ _ h => h) (Or.inl ⟨by rfl, ?_⟩) ?_ ?_
  rotate_left
  · intro w'
    go_simp
    with_reducible rfl
  rotate_left
  · (try simp only [Act.put, List.setIfInBounds_toArray, List.set_cons_zero, List.set_cons_succ, i64_w, i32_w])
    rfl
  refine pure_ (i := 2) (N := (some 19)) (v := ?_) (a' := ?_) #[true, true, true, false, false, false, false, false, false, false, false] rfl rfl (by kernel_rfl) (fun _ _ _ h => h) (Or.inl ⟨by rfl, ?_⟩) ?_ ?_
  rotate_left
  · intro w'
    go_simp
    with_reducible rfl
  rotate_left
  · (try simp only [Act.put, List.setIfInBounds_toArray, List.set_cons_zero, List.set_cons_succ, i64_w, i32_w])
    rfl
  refine pure_ (i := 3) (N := (some 20)) (v := ?_) (a' := ?_) #[true, true, true, true, false, false, false, false, false, false, false] rfl rfl (by kernel_rfl) (fun _ _ _ h => h) (Or.inl ⟨by rfl, ?_⟩) ?_ ?_
  rotate_left
  · intro w'
    go_simp
    with_reducible rfl
  rotate_left
  · (try simp only [Act.put, List.setIfInBounds_toArray, List.set_cons_zero, List.set_cons_succ, i64_w, i32_w])
    rfl
  refine take_ (i := 4) (N := some 21) (v := ?_) (a' := ?_) #[true, true, true, true, true, false, false, false, false, false, false] rfl rfl (by kernel_rfl) (fun _ _ _ h => h) (Or.inl ⟨by rfl, ?_⟩) hHeld ?_ ?_
  rotate_left
  · intro w' s0
    have q0 : World.cell? w' ⟨g, 0, none⟩ = some (.slice Ar rs.length cr) := (blk_cell (blk_below BS.out s0) 0).trans rfl
    have q1 : World.cell? w' ⟨g, 1, none⟩ = some (.slice Ao os.length co) := (blk_cell (blk_below BS.out s0) 1).trans rfl
    go_simp
    with_reducible rfl
  rotate_left
  · (try simp only [Act.put, List.setIfInBounds_toArray, List.set_cons_zero, List.set_cons_succ, i64_w, i32_w])
    rfl
  refine take_ (i := 5) (N := some 22) (v := ?_) (a' := ?_) #[true, true, true, true, true, true, false, false, false, false, false] rfl rfl (by kernel_rfl) (fun _ _ _ h => h) (Or.inl ⟨by rfl, ?_⟩) hHeld ?_ ?_
  rotate_left
  · intro w' s0
    have q0 : World.cell? w' ⟨gx, 0, none⟩ = some (.int .i64 x.f0) := (blk_cell (blk_below BK.out s0) 0).trans rfl
    have q1 : World.cell? w' ⟨gx, 1, none⟩ = some (.int .i64 x.f1) := (blk_cell (blk_below BK.out s0) 1).trans rfl
    have q2 : World.cell? w' ⟨gx, 2, none⟩ = some (.int .i64 x.f2) := (blk_cell (blk_below BK.out s0) 2).trans rfl
    go_simp
    with_reducible rfl
  rotate_left
  · (try simp only [Act.put, List.setIfInBounds_toArray, List.set_cons_zero, List.set_cons_succ, i64_w, i32_w])
    rfl
  refine one_ (i := 6) (N := (some 23)) #[true, true, true, true, true, true, true, false, false, false, false] rfl rfl (by kernel_rfl) (by decide) (fun K hK => ?_)
  refine value_ (w1 := World.alloc wS (.cells #[.int .i64 x.f0, .int .i64 x.f1, .int .i64 x.f2] 30)) (v := .slice (some ⟨wS.heap.size, 0, none⟩) 1 1) (by rfl) rfl ?_ ?_
  · go_simp
  have hh := below_alloc hHeld (Obj.cells #[.int .i64 x.f0, .int .i64 x.f1, .int .i64 x.f2] 30); clear hHeld; have hHeld := hh; clear hh
  refine hK.out _ _ hHeld (fun _ => ?_)
  clear hK K
  refine norm_ (a' := ?_) ?_ ?_
  rotate_left
  · show Act.put _ (some 23) _ = _
    (try simp only [Act.put, List.setIfInBounds_toArray, List.set_cons_zero, List.set_cons_succ, i64_w, i32_w])
    rfl
  refine last_ (i := 7) (N := (some 24)) #[true, true, true, true, true, true, true, true, false, false, false] rfl rfl (by kernel_rfl) (by decide) (fun K hK => ?_)
  refine Kd.R_append_step k30 (w0 := w) (W := wS) base (by rfl) (.tmp 21) (.tmp 23) 35 30 (.agg #[.int .i64 0, .int .i64 0, .int .i64 0]) 24 rfl Try.underlying35 (by kernel_rfl) rfl (by decide) (by omega) (.slice Ar rs.length cr) rs x [.int .i64 x.f0, .int .i64 x.f1, .int .i64 x.f2] (fun _ => True) (fun _ => False) rfl rfl (k30_mkM _ _ _ x) (fun _ h => h.elim) (fun _ _ => trivial) HRr.out (HB.out.mono HBASE.out) (Nat.le_trans HBASE.out (below_size HB.out)) (by have := HL.out; omega) ?_
  intro v1 w5 ho hb hg hat
  rw [← HNL.out] at ho
  obtain ⟨A1, c1, ee⟩ := Kd.R_slice ho
  subst ee
  have HFR := Aside0.mk ((Fr.of_below HB.out).grown hg (fun k hk => by obtain ⟨cs, hcs⟩ := Kd.R_typed HRr.out k hk; exact ⟨cs, 30, _, hcs, by decide⟩) : Fr [64, 30] w w5)
  have n1 := Aside0.mk (blk_grown BS.out hg (Kd.R_ne HRr.out BS.out (by decide)))
  have n2 := Aside0.mk (Kd.R_over' HRo.out (Kd.R_typed HRr.out) (by decide) hg)
  have n3 := Aside0.mk ho; have n4 := Aside0.mk hb
  clear BS HRr HRo HB BK; have BS := n1; have HRo := n2; have HRr := n3; have HBB := n4; clear n1 n2 n3 n4 ho hb hg hat
  refine hK.out _ _ ?_
  clear hK K
  refine norm_ (a' := ?_) ?_ ?_
  rotate_left
  · show Act.put _ (some 24) _ = _
    (try simp only [Act.put, List.setIfInBounds_toArray, List.set_cons_zero, List.set_cons_succ, i64_w, i32_w])
    rfl
  refine pure_ (i := 8) (N := (some 25)) (v := ?_) (a' := ?_) #[true, true, true, true, true, true, true, true, true, false, false] rfl rfl (by kernel_rfl) (fun _ _ _ h => h) (Or.inl ⟨by rfl, ?_⟩) ?_ ?_
  rotate_left
  · intro w'
    go_simp
    with_reducible rfl
  rotate_left
  · (try simp only [Act.put, List.setIfInBounds_toArray, List.set_cons_zero, List.set_cons_succ, i64_w, i32_w])
    rfl
  refine pure_ (i := 9) (N := (some 26)) (v := ?_) (a' := ?_) #[true, true, true, true, true, true, true, true, true, true, false] rfl rfl (by kernel_rfl) (fun _ _ _ h => h) (Or.inl ⟨by rfl, ?_⟩) ?_ ?_
  rotate_left
  · intro w'
    go_simp
    with_reducible rfl
  rotate_left
  · (try simp only [Act.put, List.setIfInBounds_toArray, List.set_cons_zero, List.set_cons_succ, i64_w, i32_w])
    rfl
  refine last_ (i := 10) (N := none) #[true, true, true, true, true, true, true, true, true, true, true] rfl rfl (by kernel_rfl) (by decide) (fun K hK => ?_)
  refine skip_ (w1 := w5.setCell ⟨g, 0, none⟩ (.slice A1 nl.length c1)) (by rfl) rfl ?_ ?_
  · have q0 : World.cell? w5 ⟨g, 0, none⟩ = some (.slice Ar rs.length cr) := (blk_cell (BS.out) 0).trans rfl; have q1 : World.cell? w5 ⟨g, 1, none⟩ = some (.slice Ao os.length co) := (blk_cell (BS.out) 1).trans rfl; have hfz : World.frozen? w5 ⟨g, 0, none⟩ = false := blk_frozen BS.out 0; go_simp
  refine hK.out _ _ ?_
  clear hK K
  refine done_ (by kernel_rfl) ?_
  try go_wp2
  go_ret
  have hs : Fr [64] w5 (w5.setCell ⟨g, 0, none⟩ (.slice A1 nl.length c1)) := (Fr.refl _ _).set BS.out (by decide) _
  exact ⟨rfl, ⟨_, _, blk_put BS.out 0 _ rfl, GE.out, R_fr rfl HRr.out hs (by decide), R_fr rfl HRo.out hs (by decide)⟩, HFR.out.set BS.out (by decide) _, HBB.out.setCell GE.out _⟩
set_option maxHeartbeats 8000000 in
set_option maxRecDepth 100000 in
theorem add_hit (base g k : Nat) (rs : List S30) (os : List S33) (x : S30) (w : World) (h : IsR base w g rs os) (hbase : base ≤ w.heap.size) (hk : k < rs.length) (hf : find30 rs x.f0 = k) :
    Calls Try.prog 9 #[.pointer (some ⟨g, 0, none⟩), .agg #[.int .i64 x.f0, .int .i64 x.f1, .int .i64 x.f2]] w fun e w' => e = .returned (.int .i64 7) ∧ Below w.heap.size w w' := by
  obtain ⟨vr, vo, hg0, hge, hr, ho⟩ := h
  obtain ⟨Ar, cr, er⟩ := Kd.R_slice hr
  obtain ⟨Ao, co, eo⟩ := Kd.R_slice ho
  subst er eo
  have BS := Aside0.mk hg0
  have HRr := Aside0.mk hr
  have HRo := Aside0.mk ho
  have GE := Aside0.mk hge
  have HB := Aside0.mk (Below.refl w.heap.size w)
  clear hg0 hge hr ho
  have HK := Aside0.mk hk
  have HF := Aside0.mk hf
  have HBASE := Aside0.mk hbase
  have h0k : (0 : Int) ≤ (k : Int) := by omega
  have hu := Try.underlying30
  clear hf hbase hk
  (try clear qBS0)
  have qBS0 : World.cell? _ ⟨g, 0, none⟩ = some (.slice Ar rs.length cr) := (blk_cell BS.out 0).trans rfl
  (try clear zBS0)
  have zBS0 : World.frozen? _ ⟨g, 0, none⟩ = false := blk_frozen BS.out 0
  (try clear qBS1)
  have qBS1 : World.cell? _ ⟨g, 1, none⟩ = some (.slice Ao os.length co) := (blk_cell BS.out 1).trans rfl
  (try clear zBS1)
  have zBS1 : World.frozen? _ ⟨g, 1, none⟩ = false := blk_frozen BS.out 1
  go_enter Try.func9, Try.ntmps9
  go_upto_region 3 with (first | ((with_reducible refine gate_dst (N := 3) rfl ?_); refine box_event ?hg (N := 3) ?hd (cs := #[.int .i64 x.f0, .int .i64 x.f1, .int .i64 x.f2]) (t := 30) ?hr ?_; (case hd => rfl); (case hg => rfl); (case hr => first | (go_simp; done) | (go_simp; rfl)); intro gx hg w1 hbox hb; have n_HB := Aside0.mk (below_step HB.out hb); have n_BS := Aside0.mk (blk_below BS.out hb); have n_HRr := Aside0.mk (Kd.R_below HRr.out hb); have n_HRo := Aside0.mk (Kd.R_below HRo.out hb); have n_BK := Aside0.mk (hbox); clear HB BS HRr HRo; have HB := n_HB; clear n_HB; have BS := n_BS; clear n_BS; have HRr := n_HRr; clear n_HRr; have HRo := n_HRo; clear n_HRo; have BK := n_BK; clear n_BK; (try clear qBS0); have qBS0 : World.cell? _ ⟨g, 0, none⟩ = some (.slice Ar rs.length cr) := (blk_cell BS.out 0).trans rfl; (try clear zBS0); have zBS0 : World.frozen? _ ⟨g, 0, none⟩ = false := blk_frozen BS.out 0; (try clear qBS1); have qBS1 : World.cell? _ ⟨g, 1, none⟩ = some (.slice Ao os.length co) := (blk_cell BS.out 1).trans rfl; (try clear zBS1); have zBS1 : World.frozen? _ ⟨g, 1, none⟩ = false := blk_frozen BS.out 1; (try clear qBK0); have qBK0 : World.cell? _ ⟨gx, 0, none⟩ = some (.int .i64 x.f0) := (blk_cell BK.out 0).trans rfl; (try clear zBK0); have zBK0 : World.frozen? _ ⟨gx, 0, none⟩ = false := blk_frozen BK.out 0; (try clear qBK1); have qBK1 : World.cell? _ ⟨gx, 1, none⟩ = some (.int .i64 x.f1) := (blk_cell BK.out 1).trans rfl; (try clear zBK1); have zBK1 : World.frozen? _ ⟨gx, 1, none⟩ = false := blk_frozen BK.out 1; (try clear qBK2); have qBK2 : World.cell? _ ⟨gx, 2, none⟩ = some (.int .i64 x.f2) := (blk_cell BK.out 2).trans rfl; (try clear zBK2); have zBK2 : World.frozen? _ ⟨gx, 2, none⟩ = false := blk_frozen BK.out 2; clear hbox hb; (try clear hg)))
  have n_HB := Aside0.mk (below_drew1 HB.out); have n_BS := Aside0.mk (blk_drew BS.out); have n_HRr := Aside0.mk (Kd.R_drew HRr.out); have n_HRo := Aside0.mk (Kd.R_drew HRo.out); have n_BK := Aside0.mk (blk_drew BK.out); clear HB BS HRr HRo BK; have HB := n_HB; clear n_HB; have BS := n_BS; clear n_BS; have HRr := n_HRr; clear n_HRr; have HRo := n_HRo; clear n_HRo; have BK := n_BK; clear n_BK; (try clear qBS0); have qBS0 : World.cell? _ ⟨g, 0, none⟩ = some (.slice Ar rs.length cr) := (blk_cell BS.out 0).trans rfl; (try clear zBS0); have zBS0 : World.frozen? _ ⟨g, 0, none⟩ = false := blk_frozen BS.out 0; (try clear qBS1); have qBS1 : World.cell? _ ⟨g, 1, none⟩ = some (.slice Ao os.length co) := (blk_cell BS.out 1).trans rfl; (try clear zBS1); have zBS1 : World.frozen? _ ⟨g, 1, none⟩ = false := blk_frozen BS.out 1; (try clear qBK0); have qBK0 : World.cell? _ ⟨gx, 0, none⟩ = some (.int .i64 x.f0) := (blk_cell BK.out 0).trans rfl; (try clear zBK0); have zBK0 : World.frozen? _ ⟨gx, 0, none⟩ = false := blk_frozen BK.out 0; (try clear qBK1); have qBK1 : World.cell? _ ⟨gx, 1, none⟩ = some (.int .i64 x.f1) := (blk_cell BK.out 1).trans rfl; (try clear zBK1); have zBK1 : World.frozen? _ ⟨gx, 1, none⟩ = false := blk_frozen BK.out 1; (try clear qBK2); have qBK2 : World.cell? _ ⟨gx, 2, none⟩ = some (.int .i64 x.f2) := (blk_cell BK.out 2).trans rfl; (try clear zBK2); have zBK2 : World.frozen? _ ⟨gx, 2, none⟩ = false := blk_frozen BK.out 2
  refine start_ (n := 9) (S := fun w' => Below w1.drew.heap.size w1.drew w') (ds := []) #[false, false, false, false, false, false, false, false, false] (by kernel_rfl) rfl rfl (Below.refl _ _) (fun hHeld => ?_)
  generalize w1.drew = wR at HB BS HRr HRo BK hHeld ⊢
  refine pure_ (i := 0) (N := (some 9)) (v := ?_) (a' := ?_) #[true, false, false, false, false, false, false, false, false] rfl rfl (by kernel_rfl) (fun _ _ _ h => h) (Or.inl ⟨by rfl, ?_⟩) ?_ ?_
  rotate_left
  · intro w'
    go_simp
    with_reducible rfl
  rotate_left
  · (try simp only [Act.put, List.setIfInBounds_toArray, List.set_cons_zero, List.set_cons_succ, i64_w, i32_w])
    rfl
  refine pure_ (i := 1) (N := (some 10)) (v := ?_) (a' := ?_) #[true, true, false, false, false, false, false, false, false] rfl rfl (by kernel_rfl) (fun _ _ _ h => h) (Or.inl ⟨by rfl, ?_⟩) ?_ ?_
  rotate_left
  · intro w'
    go_simp
    with_reducible rfl
  rotate_left
  · (try simp only [Act.put, List.setIfInBounds_toArray, List.set_cons_zero, List.set_cons_succ, i64_w, i32_w])
    rfl
  refine pure_ (i := 2) (N := (some 11)) (v := ?_) (a' := ?_) #[true, true, true, false, false, false, false, false, false] rfl rfl (by kernel_rfl) (fun _ _ _ h => h) (Or.inl ⟨by rfl, ?_⟩) ?_ ?_
  rotate_left
  · intro w'
    go_simp
    with_reducible rfl
  rotate_left
  · (try simp only [Act.put, List.setIfInBounds_toArray, List.set_cons_zero, List.set_cons_succ, i64_w, i32_w])
    rfl
  refine take_ (i := 3) (N := some 12) (v := ?_) (a' := ?_) #[true, true, true, true, false, false, false, false, false] rfl rfl (by kernel_rfl) (fun _ _ _ h => h) (Or.inl ⟨by rfl, ?_⟩) hHeld ?_ ?_
  rotate_left
  · intro w' s0
    have q0 : World.cell? w' ⟨g, 0, none⟩ = some (.slice Ar rs.length cr) := (blk_cell (blk_below BS.out s0) 0).trans rfl
    have q1 : World.cell? w' ⟨g, 1, none⟩ = some (.slice Ao os.length co) := (blk_cell (blk_below BS.out s0) 1).trans rfl
    go_simp
    with_reducible rfl
  rotate_left
  · (try simp only [Act.put, List.setIfInBounds_toArray, List.set_cons_zero, List.set_cons_succ, i64_w, i32_w])
    rfl
  refine pure_ (i := 4) (N := (some 13)) (v := ?_) (a' := ?_) #[true, true, true, true, true, false, false, false, false] rfl rfl (by kernel_rfl) (fun _ _ _ h => h) (Or.inl ⟨by rfl, ?_⟩) ?_ ?_
  rotate_left
  · intro w'
    go_simp
    with_reducible rfl
  rotate_left
  · (try simp only [Act.put, List.setIfInBounds_toArray, List.set_cons_zero, List.set_cons_succ, i64_w, i32_w])
    rfl
  refine take_ (i := 5) (N := some 14) (v := ?_) (a' := ?_) #[true, true, true, true, true, true, false, false, false] rfl rfl (by kernel_rfl) (fun _ _ _ h => h) (Or.inl ⟨by rfl, ?_⟩) hHeld ?_ ?_
  rotate_left
  · intro w' s0
    have q0 : World.cell? w' ⟨gx, 0, none⟩ = some (.int .i64 x.f0) := (blk_cell (blk_below BK.out s0) 0).trans rfl
    have q1 : World.cell? w' ⟨gx, 1, none⟩ = some (.int .i64 x.f1) := (blk_cell (blk_below BK.out s0) 1).trans rfl
    have q2 : World.cell? w' ⟨gx, 2, none⟩ = some (.int .i64 x.f2) := (blk_cell (blk_below BK.out s0) 2).trans rfl
    go_simp
    with_reducible rfl
  rotate_left
  · (try simp only [Act.put, List.setIfInBounds_toArray, List.set_cons_zero, List.set_cons_succ, i64_w, i32_w])
    rfl
  refine one_ (i := 6) (N := (some 15)) #[true, true, true, true, true, true, true, false, false] rfl rfl (by kernel_rfl) (by decide) (fun K hK => ?_)
  refine goes_ Try.func25 (by kernel_rfl) rfl #[.slice Ar rs.length cr, .func (.func 26) #[] #[], .int .i64 x.f0] (by rfl) rfl rfl (by (try simp only [List.map_toArray, List.map_cons, List.map_nil]); first | done | rfl | (simp only [List.length_drop, List.length_take]; rfl)) ?_
  refine (find30_callsE Ar cr rs x.f0 (k : Int) _ (Kd.R_reads' HRr.out).2.2 HF.out).mono ?_
  rintro e w4 ⟨rfl, hb⟩
  refine ⟨_, rfl, ?_⟩
  have hh := below_step hHeld hb; clear hHeld; have hHeld := hh; clear hh
  have n_HB := Aside0.mk (below_step HB.out hb); have n_BS := Aside0.mk (blk_below BS.out hb); have n_HRr := Aside0.mk (Kd.R_below HRr.out hb); have n_HRo := Aside0.mk (Kd.R_below HRo.out hb); have n_BK := Aside0.mk (blk_below BK.out hb); clear HB BS HRr HRo BK; have HB := n_HB; clear n_HB; have BS := n_BS; clear n_BS; have HRr := n_HRr; clear n_HRr; have HRo := n_HRo; clear n_HRo; have BK := n_BK; clear n_BK; (try clear qBS0); have qBS0 : World.cell? _ ⟨g, 0, none⟩ = some (.slice Ar rs.length cr) := (blk_cell BS.out 0).trans rfl; (try clear zBS0); have zBS0 : World.frozen? _ ⟨g, 0, none⟩ = false := blk_frozen BS.out 0; (try clear qBS1); have qBS1 : World.cell? _ ⟨g, 1, none⟩ = some (.slice Ao os.length co) := (blk_cell BS.out 1).trans rfl; (try clear zBS1); have zBS1 : World.frozen? _ ⟨g, 1, none⟩ = false := blk_frozen BS.out 1; (try clear qBK0); have qBK0 : World.cell? _ ⟨gx, 0, none⟩ = some (.int .i64 x.f0) := (blk_cell BK.out 0).trans rfl; (try clear zBK0); have zBK0 : World.frozen? _ ⟨gx, 0, none⟩ = false := blk_frozen BK.out 0; (try clear qBK1); have qBK1 : World.cell? _ ⟨gx, 1, none⟩ = some (.int .i64 x.f1) := (blk_cell BK.out 1).trans rfl; (try clear zBK1); have zBK1 : World.frozen? _ ⟨gx, 1, none⟩ = false := blk_frozen BK.out 1; (try clear qBK2); have qBK2 : World.cell? _ ⟨gx, 2, none⟩ = some (.int .i64 x.f2) := (blk_cell BK.out 2).trans rfl; (try clear zBK2); have zBK2 : World.frozen? _ ⟨gx, 2, none⟩ = false := blk_frozen BK.out 2
  clear hb
  refine hK.out _ _ hHeld (fun _ => ?_)
  clear hK K
  refine norm_ (a' := ?_) ?_ ?_
  rotate_left
  · show Act.put _ (some 15) _ = _
    (try simp only [Act.put, List.setIfInBounds_toArray, List.set_cons_zero, List.set_cons_succ, i64_w, i32_w])
    rfl
  refine pure_ (i := 7) (N := (some 16)) (v := ?_) (a' := ?_) #[true, true, true, true, true, true, true, true, false] rfl rfl (by kernel_rfl) (fun _ _ _ h => h) (Or.inl ⟨by rfl, ?_⟩) ?_ ?_
  rotate_left
  · intro w'
    go_simp
    with_reducible rfl
  rotate_left
  · (try simp only [Act.put, List.setIfInBounds_toArray, List.set_cons_zero, List.set_cons_succ, i64_w, i32_w])
    rfl
  refine pure_ (i := 8) (N := (some 8)) (v := ?_) (a' := ?_) #[true, true, true, true, true, true, true, true, true] rfl rfl (by kernel_rfl) (fun _ _ _ h => h) (Or.inl ⟨by rfl, ?_⟩) ?_ ?_
  rotate_left
  · intro w'
    go_simp
    with_reducible rfl
  rotate_left
  · (try simp only [Act.put, List.setIfInBounds_toArray, List.set_cons_zero, List.set_cons_succ, i64_w, i32_w])
    rfl
  refine done_ (by kernel_rfl) ?_
  go_wp2
  go_ret
  exact ⟨rfl, HB.out⟩
set_option maxHeartbeats 8000000 in
set_option maxRecDepth 100000 in
theorem put_miss (base g : Nat) (rs : List S30) (os : List S33) (x : S33) (w : World) (h : IsR base w g rs os) (hbase : base ≤ w.heap.size) (hl : os.length ≤ 1000) (hf : find33 os x.f0 = -1) :
    Calls Try.prog 10 #[.pointer (some ⟨g, 0, none⟩), .agg #[.int .i64 x.f0, .int .i64 x.f1, .int .i64 x.f2, .int .i64 x.f3, .bool x.f4]] w fun e w' => e = .returned (.tuple #[]) ∧ IsR base w' g rs (os ++ [x]) ∧ Fr [64, 33] w w' ∧ Below base w w' := by
  obtain ⟨vr, vo, hg0, hge, hr, ho⟩ := h
  obtain ⟨Ar, cr, er⟩ := Kd.R_slice hr
  obtain ⟨Ao, co, eo⟩ := Kd.R_slice ho
  subst er eo
  have BS := Aside0.mk hg0
  have HRr := Aside0.mk hr
  have HRo := Aside0.mk ho
  have GE := Aside0.mk hge
  have HB := Aside0.mk (Below.refl w.heap.size w)
  clear hg0 hge hr ho
  have HL := Aside0.mk hl
  have HF := Aside0.mk hf
  have HBASE := Aside0.mk hbase
  have hu := Try.underlying33
  obtain ⟨nl, hnl⟩ : ∃ l : List S33, l = os ++ [x] := ⟨_, rfl⟩
  rw [← hnl]
  have HNL := Aside0.mk hnl
  clear hl hf hbase hnl
  (try clear qBS0)
  have qBS0 : World.cell? _ ⟨g, 0, none⟩ = some (.slice Ar rs.length cr) := (blk_cell BS.out 0).trans rfl
  (try clear zBS0)
  have zBS0 : World.frozen? _ ⟨g, 0, none⟩ = false := blk_frozen BS.out 0
  (try clear qBS1)
  have qBS1 : World.cell? _ ⟨g, 1, none⟩ = some (.slice Ao os.length co) := (blk_cell BS.out 1).trans rfl
  (try clear zBS1)
  have zBS1 : World.frozen? _ ⟨g, 1, none⟩ = false := blk_frozen BS.out 1
  go_enter Try.func10, Try.ntmps10
  go_upto_region 2 with (first | ((with_reducible refine gate_dst (N := 3) rfl ?_); refine box_event ?hg (N := 3) ?hd (cs := #[.int .i64 x.f0, .int .i64 x.f1, .int .i64 x.f2, .int .i64 x.f3, .bool x.f4]) (t := 33) ?hr ?_; (case hd => rfl); (case hg => rfl); (case hr => first | (go_simp; done) | (go_simp; rfl)); intro gx hg w1 hbox hb; have n_HB := Aside0.mk (below_step HB.out hb); have n_BS := Aside0.mk (blk_below BS.out hb); have n_HRr := Aside0.mk (Kd.R_below HRr.out hb); have n_HRo := Aside0.mk (Kd.R_below HRo.out hb); have n_BK := Aside0.mk (hbox); clear HB BS HRr HRo; have HB := n_HB; clear n_HB; have BS := n_BS; clear n_BS; have HRr := n_HRr; clear n_HRr; have HRo := n_HRo; clear n_HRo; have BK := n_BK; clear n_BK; (try clear qBS0); have qBS0 : World.cell? _ ⟨g, 0, none⟩ = some (.slice Ar rs.length cr) := (blk_cell BS.out 0).trans rfl; (try clear zBS0); have zBS0 : World.frozen? _ ⟨g, 0, none⟩ = false := blk_frozen BS.out 0; (try clear qBS1); have qBS1 : World.cell? _ ⟨g, 1, none⟩ = some (.slice Ao os.length co) := (blk_cell BS.out 1).trans rfl; (try clear zBS1); have zBS1 : World.frozen? _ ⟨g, 1, none⟩ = false := blk_frozen BS.out 1; (try clear qBK0); have qBK0 : World.cell? _ ⟨gx, 0, none⟩ = some (.int .i64 x.f0) := (blk_cell BK.out 0).trans rfl; (try clear zBK0); have zBK0 : World.frozen? _ ⟨gx, 0, none⟩ = false := blk_frozen BK.out 0; (try clear qBK1); have qBK1 : World.cell? _ ⟨gx, 1, none⟩ = some (.int .i64 x.f1) := (blk_cell BK.out 1).trans rfl; (try clear zBK1); have zBK1 : World.frozen? _ ⟨gx, 1, none⟩ = false := blk_frozen BK.out 1; (try clear qBK2); have qBK2 : World.cell? _ ⟨gx, 2, none⟩ = some (.int .i64 x.f2) := (blk_cell BK.out 2).trans rfl; (try clear zBK2); have zBK2 : World.frozen? _ ⟨gx, 2, none⟩ = false := blk_frozen BK.out 2; (try clear qBK3); have qBK3 : World.cell? _ ⟨gx, 3, none⟩ = some (.int .i64 x.f3) := (blk_cell BK.out 3).trans rfl; (try clear zBK3); have zBK3 : World.frozen? _ ⟨gx, 3, none⟩ = false := blk_frozen BK.out 3; (try clear qBK4); have qBK4 : World.cell? _ ⟨gx, 4, none⟩ = some (.bool x.f4) := (blk_cell BK.out 4).trans rfl; (try clear zBK4); have zBK4 : World.frozen? _ ⟨gx, 4, none⟩ = false := blk_frozen BK.out 4; clear hbox hb; (try clear hg)))
  have n_HB := Aside0.mk (below_drew1 HB.out); have n_BS := Aside0.mk (blk_drew BS.out); have n_HRr := Aside0.mk (Kd.R_drew HRr.out); have n_HRo := Aside0.mk (Kd.R_drew HRo.out); have n_BK := Aside0.mk (blk_drew BK.out); clear HB BS HRr HRo BK; have HB := n_HB; clear n_HB; have BS := n_BS; clear n_BS; have HRr := n_HRr; clear n_HRr; have HRo := n_HRo; clear n_HRo; have BK := n_BK; clear n_BK; (try clear qBS0); have qBS0 : World.cell? _ ⟨g, 0, none⟩ = some (.slice Ar rs.length cr) := (blk_cell BS.out 0).trans rfl; (try clear zBS0); have zBS0 : World.frozen? _ ⟨g, 0, none⟩ = false := blk_frozen BS.out 0; (try clear qBS1); have qBS1 : World.cell? _ ⟨g, 1, none⟩ = some (.slice Ao os.length co) := (blk_cell BS.out 1).trans rfl; (try clear zBS1); have zBS1 : World.frozen? _ ⟨g, 1, none⟩ = false := blk_frozen BS.out 1; (try clear qBK0); have qBK0 : World.cell? _ ⟨gx, 0, none⟩ = some (.int .i64 x.f0) := (blk_cell BK.out 0).trans rfl; (try clear zBK0); have zBK0 : World.frozen? _ ⟨gx, 0, none⟩ = false := blk_frozen BK.out 0; (try clear qBK1); have qBK1 : World.cell? _ ⟨gx, 1, none⟩ = some (.int .i64 x.f1) := (blk_cell BK.out 1).trans rfl; (try clear zBK1); have zBK1 : World.frozen? _ ⟨gx, 1, none⟩ = false := blk_frozen BK.out 1; (try clear qBK2); have qBK2 : World.cell? _ ⟨gx, 2, none⟩ = some (.int .i64 x.f2) := (blk_cell BK.out 2).trans rfl; (try clear zBK2); have zBK2 : World.frozen? _ ⟨gx, 2, none⟩ = false := blk_frozen BK.out 2; (try clear qBK3); have qBK3 : World.cell? _ ⟨gx, 3, none⟩ = some (.int .i64 x.f3) := (blk_cell BK.out 3).trans rfl; (try clear zBK3); have zBK3 : World.frozen? _ ⟨gx, 3, none⟩ = false := blk_frozen BK.out 3; (try clear qBK4); have qBK4 : World.cell? _ ⟨gx, 4, none⟩ = some (.bool x.f4) := (blk_cell BK.out 4).trans rfl; (try clear zBK4); have zBK4 : World.frozen? _ ⟨gx, 4, none⟩ = false := blk_frozen BK.out 4
  refine start_ (n := 8) (S := fun w' => Below w1.drew.heap.size w1.drew w') (ds := []) #[false, false, false, false, false, false, false, false] (by kernel_rfl) rfl rfl (Below.refl _ _) (fun hHeld => ?_)
  generalize w1.drew = wR at HB BS HRr HRo BK hHeld ⊢
  refine pure_ (i := 0) (N := (some 7)) (v := ?_) (a' := ?_) #[true, false, false, false, false, false, false, false] rfl rfl (by kernel_rfl) (fun _ _ _ h => h) (Or.inl ⟨by rfl, ?_⟩) ?_ ?_
  rotate_left
  · intro w'
    go_simp
    with_reducible rfl
  rotate_left
  · (try simp only [Act.put, List.setIfInBounds_toArray, List.set_cons_zero, List.set_cons_succ, i64_w, i32_w])
    rfl
  refine pure_ (i := 1) (N := (some 8)) (v := ?_) (a' := ?_) #[true, true, false, false, false, false, false, false] rfl rfl (by kernel_rfl) (fun _ _ _ h => h) (Or.inl ⟨by rfl, ?_⟩) ?_ ?_
  rotate_left
  · intro w'
    go_simp
    with_reducible rfl
  rotate_left
  · (try simp only [Act.put, List.setIfInBounds_toArray, List.set_cons_zero, List.set_cons_succ, i64_w, i32_w])
    rfl
  refine pure_ (i := 2) (N := (some 9)) (v := ?_) (a' := ?_) #[true, true, true, false, false, false, false, false] rfl rfl (by kernel_rfl) (fun _ _ _ h => h) (Or.inl ⟨by rfl, ?_⟩) ?_ ?_
  rotate_left
  · intro w'
    go_simp
    with_reducible rfl
  rotate_left
  · (try simp only [Act.put, List.setIfInBounds_toArray, List.set_cons_zero, List.set_cons_succ, i64_w, i32_w])
    rfl
  refine take_ (i := 3) (N := some 10) (v := ?_) (a' := ?_) #[true, true, true, true, false, false, false, false] rfl rfl (by kernel_rfl) (fun _ _ _ h => h) (Or.inl ⟨by rfl, ?_⟩) hHeld ?_ ?_
  rotate_left
  · intro w' s0
    have q0 : World.cell? w' ⟨g, 0, none⟩ = some (.slice Ar rs.length cr) := (blk_cell (blk_below BS.out s0) 0).trans rfl
    have q1 : World.cell? w' ⟨g, 1, none⟩ = some (.slice Ao os.length co) := (blk_cell (blk_below BS.out s0) 1).trans rfl
    go_simp
    with_reducible rfl
  rotate_left
  · (try simp only [Act.put, List.setIfInBounds_toArray, List.set_cons_zero, List.set_cons_succ, i64_w, i32_w])
    rfl
  refine pure_ (i := 4) (N := (some 11)) (v := ?_) (a' := ?_) #[true, true, true, true, true, false, false, false] rfl rfl (by kernel_rfl) (fun _ _ _ h => h) (Or.inl ⟨by rfl, ?_⟩) ?_ ?_
  rotate_left
  · intro w'
    go_simp
    with_reducible rfl
  rotate_left
  · (try simp only [Act.put, List.setIfInBounds_toArray, List.set_cons_zero, List.set_cons_succ, i64_w, i32_w])
    rfl
  refine take_ (i := 5) (N := some 12) (v := ?_) (a' := ?_) #[true, true, true, true, true, true, false, false] rfl rfl (by kernel_rfl) (fun _ _ _ h => h) (Or.inl ⟨by rfl, ?_⟩) hHeld ?_ ?_
  rotate_left
  · intro w' s0
    have q0 : World.cell? w' ⟨gx, 0, none⟩ = some (.int .i64 x.f0) := (blk_cell (blk_below BK.out s0) 0).trans rfl
    have q1 : World.cell? w' ⟨gx, 1, none⟩ = some (.int .i64 x.f1) := (blk_cell (blk_below BK.out s0) 1).trans rfl
    have q2 : World.cell? w' ⟨gx, 2, none⟩ = some (.int .i64 x.f2) := (blk_cell (blk_below BK.out s0) 2).trans rfl
    have q3 : World.cell? w' ⟨gx, 3, none⟩ = some (.int .i64 x.f3) := (blk_cell (blk_below BK.out s0) 3).trans rfl
    have q4 : World.cell? w' ⟨gx, 4, none⟩ = some (.bool x.f4) := (blk_cell (blk_below BK.out s0) 4).trans rfl
    go_simp
    with_reducible rfl
  rotate_left
  · (try simp only [Act.put, List.setIfInBounds_toArray, List.set_cons_zero, List.set_cons_succ, i64_w, i32_w])
    rfl
  refine one_ (i := 6) (N := (some 13)) #[true, true, true, true, true, true, true, false] rfl rfl (by kernel_rfl) (by decide) (fun K hK => ?_)
  refine goes_ Try.func27 (by kernel_rfl) rfl #[.slice Ao os.length co, .func (.func 28) #[] #[], .int .i64 x.f0] (by rfl) rfl rfl (by (try simp only [List.map_toArray, List.map_cons, List.map_nil]); first | done | rfl | (simp only [List.length_drop, List.length_take]; rfl)) ?_
  refine (find33_callsE Ao co os x.f0 (-1) _ (Kd.R_reads' HRo.out).2.2 HF.out).mono ?_
  rintro e w4 ⟨rfl, hb⟩
  refine ⟨_, rfl, ?_⟩
  have hh := below_step hHeld hb; clear hHeld; have hHeld := hh; clear hh
  have n_HB := Aside0.mk (below_step HB.out hb); have n_BS := Aside0.mk (blk_below BS.out hb); have n_HRr := Aside0.mk (Kd.R_below HRr.out hb); have n_HRo := Aside0.mk (Kd.R_below HRo.out hb); have n_BK := Aside0.mk (blk_below BK.out hb); clear HB BS HRr HRo BK; have HB := n_HB; clear n_HB; have BS := n_BS; clear n_BS; have HRr := n_HRr; clear n_HRr; have HRo := n_HRo; clear n_HRo; have BK := n_BK; clear n_BK; (try clear qBS0); have qBS0 : World.cell? _ ⟨g, 0, none⟩ = some (.slice Ar rs.length cr) := (blk_cell BS.out 0).trans rfl; (try clear zBS0); have zBS0 : World.frozen? _ ⟨g, 0, none⟩ = false := blk_frozen BS.out 0; (try clear qBS1); have qBS1 : World.cell? _ ⟨g, 1, none⟩ = some (.slice Ao os.length co) := (blk_cell BS.out 1).trans rfl; (try clear zBS1); have zBS1 : World.frozen? _ ⟨g, 1, none⟩ = false := blk_frozen BS.out 1; (try clear qBK0); have qBK0 : World.cell? _ ⟨gx, 0, none⟩ = some (.int .i64 x.f0) := (blk_cell BK.out 0).trans rfl; (try clear zBK0); have zBK0 : World.frozen? _ ⟨gx, 0, none⟩ = false := blk_frozen BK.out 0; (try clear qBK1); have qBK1 : World.cell? _ ⟨gx, 1, none⟩ = some (.int .i64 x.f1) := (blk_cell BK.out 1).trans rfl; (try clear zBK1); have zBK1 : World.frozen? _ ⟨gx, 1, none⟩ = false := blk_frozen BK.out 1; (try clear qBK2); have qBK2 : World.cell? _ ⟨gx, 2, none⟩ = some (.int .i64 x.f2) := (blk_cell BK.out 2).trans rfl; (try clear zBK2); have zBK2 : World.frozen? _ ⟨gx, 2, none⟩ = false := blk_frozen BK.out 2; (try clear qBK3); have qBK3 : World.cell? _ ⟨gx, 3, none⟩ = some (.int .i64 x.f3) := (blk_cell BK.out 3).trans rfl; (try clear zBK3); have zBK3 : World.frozen? _ ⟨gx, 3, none⟩ = false := blk_frozen BK.out 3; (try clear qBK4); have qBK4 : World.cell? _ ⟨gx, 4, none⟩ = some (.bool x.f4) := (blk_cell BK.out 4).trans rfl; (try clear zBK4); have zBK4 : World.frozen? _ ⟨gx, 4, none⟩ = false := blk_frozen BK.out 4
  clear hb
  refine hK.out _ _ hHeld (fun _ => ?_)
  clear hK K
  refine norm_ (a' := ?_) ?_ ?_
  rotate_left
  · show Act.put _ (some 13) _ = _
    (try simp only [Act.put, List.setIfInBounds_toArray, List.set_cons_zero, List.set_cons_succ, i64_w, i32_w])
    rfl
  refine pure_ (i := 7) (N := (some 4)) (v := ?_) (a' := ?_) #[true, true, true, true, true, true, true, true] rfl rfl (by kernel_rfl) (fun _ _ _ h => h) (Or.inl ⟨by rfl, ?_⟩) ?_ ?_
  rotate_left
  · intro w'
    go_simp
    with_reducible rfl
  rotate_left
  · (try simp only [Act.put, List.setIfInBounds_toArray, List.set_cons_zero, List.set_cons_succ, i64_w, i32_w])
    rfl
  refine done_ (by kernel_rfl) ?_
  (try clear qBS0)
  have qBS0 : World.cell? _ ⟨g, 0, none⟩ = some (.slice Ar rs.length cr) := (blk_cell BS.out 0).trans rfl
  (try clear zBS0)
  have zBS0 : World.frozen? _ ⟨g, 0, none⟩ = false := blk_frozen BS.out 0
  (try clear qBS1)
  have qBS1 : World.cell? _ ⟨g, 1, none⟩ = some (.slice Ao os.length co) := (blk_cell BS.out 1).trans rfl
  (try clear zBS1)
  have zBS1 : World.frozen? _ ⟨g, 1, none⟩ = false := blk_frozen BS.out 1
  (try clear qBK0)
  have qBK0 : World.cell? _ ⟨gx, 0, none⟩ = some (.int .i64 x.f0) := (blk_cell BK.out 0).trans rfl
  (try clear zBK0)
  have zBK0 : World.frozen? _ ⟨gx, 0, none⟩ = false := blk_frozen BK.out 0
  (try clear qBK1)
  have qBK1 : World.cell? _ ⟨gx, 1, none⟩ = some (.int .i64 x.f1) := (blk_cell BK.out 1).trans rfl
  (try clear zBK1)
  have zBK1 : World.frozen? _ ⟨gx, 1, none⟩ = false := blk_frozen BK.out 1
  (try clear qBK2)
  have qBK2 : World.cell? _ ⟨gx, 2, none⟩ = some (.int .i64 x.f2) := (blk_cell BK.out 2).trans rfl
  (try clear zBK2)
  have zBK2 : World.frozen? _ ⟨gx, 2, none⟩ = false := blk_frozen BK.out 2
  (try clear qBK3)
  have qBK3 : World.cell? _ ⟨gx, 3, none⟩ = some (.int .i64 x.f3) := (blk_cell BK.out 3).trans rfl
  (try clear zBK3)
  have zBK3 : World.frozen? _ ⟨gx, 3, none⟩ = false := blk_frozen BK.out 3
  (try clear qBK4)
  have qBK4 : World.cell? _ ⟨gx, 4, none⟩ = some (.bool x.f4) := (blk_cell BK.out 4).trans rfl
  (try clear zBK4)
  have zBK4 : World.frozen? _ ⟨gx, 4, none⟩ = false := blk_frozen BK.out 4
  go_upto_region 5 with (fail)
  have n_HB := Aside0.mk (below_drew1 HB.out); have n_BS := Aside0.mk (blk_drew BS.out); have n_HRr := Aside0.mk (Kd.R_drew HRr.out); have n_HRo := Aside0.mk (Kd.R_drew HRo.out); have n_BK := Aside0.mk (blk_drew BK.out); clear HB BS HRr HRo BK; have HB := n_HB; clear n_HB; have BS := n_BS; clear n_BS; have HRr := n_HRr; clear n_HRr; have HRo := n_HRo; clear n_HRo; have BK := n_BK; clear n_BK; (try clear qBS0); have qBS0 : World.cell? _ ⟨g, 0, none⟩ = some (.slice Ar rs.length cr) := (blk_cell BS.out 0).trans rfl; (try clear zBS0); have zBS0 : World.frozen? _ ⟨g, 0, none⟩ = false := blk_frozen BS.out 0; (try clear qBS1); have qBS1 : World.cell? _ ⟨g, 1, none⟩ = some (.slice Ao os.length co) := (blk_cell BS.out 1).trans rfl; (try clear zBS1); have zBS1 : World.frozen? _ ⟨g, 1, none⟩ = false := blk_frozen BS.out 1; (try clear qBK0); have qBK0 : World.cell? _ ⟨gx, 0, none⟩ = some (.int .i64 x.f0) := (blk_cell BK.out 0).trans rfl; (try clear zBK0); have zBK0 : World.frozen? _ ⟨gx, 0, none⟩ = false := blk_frozen BK.out 0; (try clear qBK1); have qBK1 : World.cell? _ ⟨gx, 1, none⟩ = some (.int .i64 x.f1) := (blk_cell BK.out 1).trans rfl; (try clear zBK1); have zBK1 : World.frozen? _ ⟨gx, 1, none⟩ = false := blk_frozen BK.out 1; (try clear qBK2); have qBK2 : World.cell? _ ⟨gx, 2, none⟩ = some (.int .i64 x.f2) := (blk_cell BK.out 2).trans rfl; (try clear zBK2); have zBK2 : World.frozen? _ ⟨gx, 2, none⟩ = false := blk_frozen BK.out 2; (try clear qBK3); have qBK3 : World.cell? _ ⟨gx, 3, none⟩ = some (.int .i64 x.f3) := (blk_cell BK.out 3).trans rfl; (try clear zBK3); have zBK3 : World.frozen? _ ⟨gx, 3, none⟩ = false := blk_frozen BK.out 3; (try clear qBK4); have qBK4 : World.cell? _ ⟨gx, 4, none⟩ = some (.bool x.f4) := (blk_cell BK.out 4).trans rfl; (try clear zBK4); have zBK4 : World.frozen? _ ⟨gx, 4, none⟩ = false := blk_frozen BK.out 4
  refine start_ (n := 11) (S := fun w' => Below w4.drew.heap.size w4.drew w') (ds := [7, 10]) #[false, false, false, false, false, false, false, false, false, false, false] (by kernel_rfl) rfl rfl (Below.refl _ _) (fun hHeld => ?_)
  generalize w4.drew = wS at HB BS HRr HRo BK hHeld ⊢
  refine pure_ (i := 0) (N := (some 23)) (v := ?_) (a' := ?_) #[true, false, false, false, false, false, false, false, false, false, false] rfl rfl (by kernel_rfl) (fun _ _ _ h => h) (Or.inl ⟨by rfl, ?_⟩) ?_ ?_
  rotate_left
  · intro w'
    go_simp
    with_reducible rfl
  rotate_left
  · (try simp only [Act.put, List.setIfInBounds_toArray, List.set_cons_zero, List.set_cons_succ, i64_w, i32_w])
    rfl
  refine pure_ (i := 1) (N := (some 24)) (v := ?_) (a' := ?_) #[true, true, false, false, false, false, false, false, false, false, false] rfl rfl (by kernel_rfl) (fun _ _ _ h => h) (Or.inl ⟨by rfl, ?_⟩) ?_ ?_
  rotate_left
  · intro w'
    go_simp
    with_reducible rfl
  rotate_left
  · (try simp only [Act.put, List.setIfInBounds_toArray, List.set_cons_zero, List.set_cons_succ, i64_w, i32_w])
    rfl
  refine pure_ (i := 2) (N := (some 25)) (v := ?_) (a' := ?_) #[true, true, true, false, false, false, false, false, false, false, false] rfl rfl (by kernel_rfl) (fun _ _ _ h => h) (Or.inl ⟨by rfl, ?_⟩) ?_ ?_
  rotate_left
  · intro w'
    go_simp
    with_reducible rfl
  rotate_left
  · (try simp only [Act.put, List.setIfInBounds_toArray, List.set_cons_zero, List.set_cons_succ, i64_w, i32_w])
    rfl
  refine pure_ (i := 3) (N := (some 26)) (v := ?_) (a' := ?_) #[true, true, true, true, false, false, false, false, false, false, false] rfl rfl (by kernel_rfl) (fun _ _ _ h => h) (Or.inl ⟨by rfl, ?_⟩) ?_ ?_
  rotate_left
  · intro w'
    go_simp
    with_reducible rfl
  rotate_left
  · (try simp only [Act.put, List.setIfInBounds_toArray, List.set_cons_zero, List.set_cons_succ, i64_w, i32_w])
    rfl
  refine take_ (i := 4) (N := some 27) (v := ?_) (a' := ?_) #[true, true, true, true, true, false, false, false, false, false, false] rfl rfl (by kernel_rfl) (fun _ _ _ h => h) (Or.inl ⟨by rfl, ?_⟩) hHeld ?_ ?_
  rotate_left
  · intro w' s0
    have q0 : World.cell? w' ⟨g, 0, none⟩ = some (.slice Ar rs.length cr) := (blk_cell (blk_below BS.out s0) 0).trans rfl
    have q1 : World.cell? w' ⟨g, 1, none⟩ = some (.slice Ao os.length co) := (blk_cell (blk_below BS.out s0) 1).trans rfl
    go_simp
    with_reducible rfl
  rotate_left
  · (try simp only [Act.put, List.setIfInBounds_toArray, List.set_cons_zero, List.set_cons_succ, i64_w, i32_w])
    rfl
  refine take_ (i := 5) (N := some 28) (v := ?_) (a' := ?_) #[true, true, true, true, true, true, false, false, false, false, false] rfl rfl (by kernel_rfl) (fun _ _ _ h => h) (Or.inl ⟨by rfl, ?_⟩) hHeld ?_ ?_
  rotate_left
  · intro w' s0
    have q0 : World.cell? w' ⟨gx, 0, none⟩ = some (.int .i64 x.f0) := (blk_cell (blk_below BK.out s0) 0).trans rfl
    have q1 : World.cell? w' ⟨gx, 1, none⟩ = some (.int .i64 x.f1) := (blk_cell (blk_below BK.out s0) 1).trans rfl
    have q2 : World.cell? w' ⟨gx, 2, none⟩ = some (.int .i64 x.f2) := (blk_cell (blk_below BK.out s0) 2).trans rfl
    have q3 : World.cell? w' ⟨gx, 3, none⟩ = some (.int .i64 x.f3) := (blk_cell (blk_below BK.out s0) 3).trans rfl
    have q4 : World.cell? w' ⟨gx, 4, none⟩ = some (.bool x.f4) := (blk_cell (blk_below BK.out s0) 4).trans rfl
    go_simp
    with_reducible rfl
  rotate_left
  · (try simp only [Act.put, List.setIfInBounds_toArray, List.set_cons_zero, List.set_cons_succ, i64_w, i32_w])
    rfl
  refine one_ (i := 6) (N := (some 29)) #[true, true, true, true, true, true, true, false, false, false, false] rfl rfl (by kernel_rfl) (by decide) (fun K hK => ?_)
  refine value_ (w1 := World.alloc wS (.cells #[.int .i64 x.f0, .int .i64 x.f1, .int .i64 x.f2, .int .i64 x.f3, .bool x.f4] 33)) (v := .slice (some ⟨wS.heap.size, 0, none⟩) 1 1) (by rfl) rfl ?_ ?_
  · go_simp
  have hh := below_alloc hHeld (Obj.cells #[.int .i64 x.f0, .int .i64 x.f1, .int .i64 x.f2, .int .i64 x.f3, .bool x.f4] 33); clear hHeld; have hHeld := hh; clear hh
  refine hK.out _ _ hHeld (fun _ => ?_)
  clear hK K
  refine norm_ (a' := ?_) ?_ ?_
  rotate_left
  · show Act.put _ (some 29) _ = _
    (try simp only [Act.put, List.setIfInBounds_toArray, List.set_cons_zero, List.set_cons_succ, i64_w, i32_w])
    rfl
  refine last_ (i := 7) (N := (some 30)) #[true, true, true, true, true, true, true, true, false, false, false] rfl rfl (by kernel_rfl) (by decide) (fun K hK => ?_)
  refine Kd.R_append_step k33 (w0 := w) (W := wS) base (by rfl) (.tmp 27) (.tmp 29) 58 33 (.agg #[.int .i64 0, .int .i64 0, .int .i64 0, .int .i64 0, .bool false]) 40 rfl Try.underlying58 (by kernel_rfl) rfl (by decide) (by omega) (.slice Ao os.length co) os x [.int .i64 x.f0, .int .i64 x.f1, .int .i64 x.f2, .int .i64 x.f3, .bool x.f4] (fun _ => True) (fun _ => False) rfl rfl (k33_mkM _ _ _ x) (fun _ h => h.elim) (fun _ _ => trivial) HRo.out (HB.out.mono HBASE.out) (Nat.le_trans HBASE.out (below_size HB.out)) (by have := HL.out; omega) ?_
  intro v1 w5 ho hb hg hat
  rw [← HNL.out] at ho
  obtain ⟨A1, c1, ee⟩ := Kd.R_slice ho
  subst ee
  have HFR := Aside0.mk ((Fr.of_below HB.out).grown hg (fun k hk => by obtain ⟨cs, hcs⟩ := Kd.R_typed HRo.out k hk; exact ⟨cs, 33, _, hcs, by decide⟩) : Fr [64, 33] w w5)
  have n1 := Aside0.mk (blk_grown BS.out hg (Kd.R_ne HRo.out BS.out (by decide)))
  have n2 := Aside0.mk (Kd.R_over' HRr.out (Kd.R_typed HRo.out) (by decide) hg)
  have n3 := Aside0.mk ho; have n4 := Aside0.mk hb
  clear BS HRr HRo HB BK; have BS := n1; have HRr := n2; have HRo := n3; have HBB := n4; clear n1 n2 n3 n4 ho hb hg hat
  refine hK.out _ _ ?_
  clear hK K
  refine norm_ (a' := ?_) ?_ ?_
  rotate_left
  · show Act.put _ (some 30) _ = _
    (try simp only [Act.put, List.setIfInBounds_toArray, List.set_cons_zero, List.set_cons_succ, i64_w, i32_w])
    rfl
  refine pure_ (i := 8) (N := (some 31)) (v := ?_) (a' := ?_) #[true, true, true, true, true, true, true, true, true, false, false] rfl rfl (by kernel_rfl) (fun _ _ _ h => h) (Or.inl ⟨by rfl, ?_⟩) ?_ ?_
  rotate_left
  · intro w'
    go_simp
    with_reducible rfl
  rotate_left
  · (try simp only [Act.put, List.setIfInBounds_toArray, List.set_cons_zero, List.set_cons_succ, i64_w, i32_w])
    rfl
  refine pure_ (i := 9) (N := (some 32)) (v := ?_) (a' := ?_) #[true, true, true, true, true, true, true, true, true, true, false] rfl rfl (by kernel_rfl) (fun _ _ _ h => h) (Or.inl ⟨by rfl, ?_⟩) ?_ ?_
  rotate_left
  · intro w'
    go_simp
    with_reducible rfl
  rotate_left
  · (try simp only [Act.put, List.setIfInBounds_toArray, List.set_cons_zero, List.set_cons_succ, i64_w, i32_w])
    rfl
  refine last_ (i := 10) (N := none) #[true, true, true, true, true, true, true, true, true, true, true] rfl rfl (by kernel_rfl) (by decide) (fun K hK => ?_)
  refine skip_ (w1 := w5.setCell ⟨g, 1, none⟩ (.slice A1 nl.length c1)) (by rfl) rfl ?_ ?_
  · have q0 : World.cell? w5 ⟨g, 0, none⟩ = some (.slice Ar rs.length cr) := (blk_cell (BS.out) 0).trans rfl; have q1 : World.cell? w5 ⟨g, 1, none⟩ = some (.slice Ao os.length co) := (blk_cell (BS.out) 1).trans rfl; have hfz : World.frozen? w5 ⟨g, 1, none⟩ = false := blk_frozen BS.out 1; go_simp
  refine hK.out _ _ ?_
  clear hK K
  refine done_ (by kernel_rfl) ?_
  try go_wp2
  first | go_end0 | ((try simp only [Exit.inBlock, Exit.then]); refine bodyPost_ret (results_none rfl _ _ _) rfl ?_)
  have hs : Fr [64] w5 (w5.setCell ⟨g, 1, none⟩ (.slice A1 nl.length c1)) := (Fr.refl _ _).set BS.out (by decide) _
  exact ⟨rfl, ⟨_, _, blk_put BS.out 1 _ rfl, GE.out, R_fr rfl HRr.out hs (by decide), R_fr rfl HRo.out hs (by decide)⟩, HFR.out.set BS.out (by decide) _, HBB.out.setCell GE.out _⟩
set_option maxHeartbeats 8000000 in
set_option maxRecDepth 100000 in
theorem put_hit (base g k : Nat) (rs : List S30) (os : List S33) (x : S33) (w : World) (h : IsR base w g rs os) (hbase : base ≤ w.heap.size) (hk : k < os.length) (hf : find33 os x.f0 = k) :
    Calls Try.prog 10 #[.pointer (some ⟨g, 0, none⟩), .agg #[.int .i64 x.f0, .int .i64 x.f1, .int .i64 x.f2, .int .i64 x.f3, .bool x.f4]] w fun e w' => e = .returned (.tuple #[]) ∧ IsR base w' g rs (os.set k x) ∧ Fr [64, 33] w w' ∧ Below base w w' := by
  obtain ⟨vr, vo, hg0, hge, hr, ho⟩ := h
  obtain ⟨Ar, cr, er⟩ := Kd.R_slice hr
  obtain ⟨Ao, co, eo⟩ := Kd.R_slice ho
  subst er eo
  have BS := Aside0.mk hg0
  have HRr := Aside0.mk hr
  have HRo := Aside0.mk ho
  have GE := Aside0.mk hge
  have HB := Aside0.mk (Below.refl w.heap.size w)
  clear hg0 hge hr ho
  have HK := Aside0.mk hk
  have HF := Aside0.mk hf
  have HBASE := Aside0.mk hbase
  have h0k : (0 : Int) ≤ (k : Int) := by omega
  have hu := Try.underlying33
  clear hf hbase hk
  (try clear qBS0)
  have qBS0 : World.cell? _ ⟨g, 0, none⟩ = some (.slice Ar rs.length cr) := (blk_cell BS.out 0).trans rfl
  (try clear zBS0)
  have zBS0 : World.frozen? _ ⟨g, 0, none⟩ = false := blk_frozen BS.out 0
  (try clear qBS1)
  have qBS1 : World.cell? _ ⟨g, 1, none⟩ = some (.slice Ao os.length co) := (blk_cell BS.out 1).trans rfl
  (try clear zBS1)
  have zBS1 : World.frozen? _ ⟨g, 1, none⟩ = false := blk_frozen BS.out 1
  go_enter Try.func10, Try.ntmps10
  go_upto_region 2 with (first | ((with_reducible refine gate_dst (N := 3) rfl ?_); refine box_event ?hg (N := 3) ?hd (cs := #[.int .i64 x.f0, .int .i64 x.f1, .int .i64 x.f2, .int .i64 x.f3, .bool x.f4]) (t := 33) ?hr ?_; (case hd => rfl); (case hg => rfl); (case hr => first | (go_simp; done) | (go_simp; rfl)); intro gx hg w1 hbox hb; have n_HB := Aside0.mk (below_step HB.out hb); have n_BS := Aside0.mk (blk_below BS.out hb); have n_HRr := Aside0.mk (Kd.R_below HRr.out hb); have n_HRo := Aside0.mk (Kd.R_below HRo.out hb); have n_BK := Aside0.mk (hbox); clear HB BS HRr HRo; have HB := n_HB; clear n_HB; have BS := n_BS; clear n_BS; have HRr := n_HRr; clear n_HRr; have HRo := n_HRo; clear n_HRo; have BK := n_BK; clear n_BK; (try clear qBS0); have qBS0 : World.cell? _ ⟨g, 0, none⟩ = some (.slice Ar rs.length cr) := (blk_cell BS.out 0).trans rfl; (try clear zBS0); have zBS0 : World.frozen? _ ⟨g, 0, none⟩ = false := blk_frozen BS.out 0; (try clear qBS1); have qBS1 : World.cell? _ ⟨g, 1, none⟩ = some (.slice Ao os.length co) := (blk_cell BS.out 1).trans rfl; (try clear zBS1); have zBS1 : World.frozen? _ ⟨g, 1, none⟩ = false := blk_frozen BS.out 1; (try clear qBK0); have qBK0 : World.cell? _ ⟨gx, 0, none⟩ = some (.int .i64 x.f0) := (blk_cell BK.out 0).trans rfl; (try clear zBK0); have zBK0 : World.frozen? _ ⟨gx, 0, none⟩ = false := blk_frozen BK.out 0; (try clear qBK1); have qBK1 : World.cell? _ ⟨gx, 1, none⟩ = some (.int .i64 x.f1) := (blk_cell BK.out 1).trans rfl; (try clear zBK1); have zBK1 : World.frozen? _ ⟨gx, 1, none⟩ = false := blk_frozen BK.out 1; (try clear qBK2); have qBK2 : World.cell? _ ⟨gx, 2, none⟩ = some (.int .i64 x.f2) := (blk_cell BK.out 2).trans rfl; (try clear zBK2); have zBK2 : World.frozen? _ ⟨gx, 2, none⟩ = false := blk_frozen BK.out 2; (try clear qBK3); have qBK3 : World.cell? _ ⟨gx, 3, none⟩ = some (.int .i64 x.f3) := (blk_cell BK.out 3).trans rfl; (try clear zBK3); have zBK3 : World.frozen? _ ⟨gx, 3, none⟩ = false := blk_frozen BK.out 3; (try clear qBK4); have qBK4 : World.cell? _ ⟨gx, 4, none⟩ = some (.bool x.f4) := (blk_cell BK.out 4).trans rfl; (try clear zBK4); have zBK4 : World.frozen? _ ⟨gx, 4, none⟩ = false := blk_frozen BK.out 4; clear hbox hb; (try clear hg)))
  have n_HB := Aside0.mk (below_drew1 HB.out); have n_BS := Aside0.mk (blk_drew BS.out); have n_HRr := Aside0.mk (Kd.R_drew HRr.out); have n_HRo := Aside0.mk (Kd.R_drew HRo.out); have n_BK := Aside0.mk (blk_drew BK.out); clear HB BS HRr HRo BK; have HB := n_HB; clear n_HB; have BS := n_BS; clear n_BS; have HRr := n_HRr; clear n_HRr; have HRo := n_HRo; clear n_HRo; have BK := n_BK; clear n_BK; (try clear qBS0); have qBS0 : World.cell? _ ⟨g, 0, none⟩ = some (.slice Ar rs.length cr) := (blk_cell BS.out 0).trans rfl; (try clear zBS0); have zBS0 : World.frozen? _ ⟨g, 0, none⟩ = false := blk_frozen BS.out 0; (try clear qBS1); have qBS1 : World.cell? _ ⟨g, 1, none⟩ = some (.slice Ao os.length co) := (blk_cell BS.out 1).trans rfl; (try clear zBS1); have zBS1 : World.frozen? _ ⟨g, 1, none⟩ = false := blk_frozen BS.out 1; (try clear qBK0); have qBK0 : World.cell? _ ⟨gx, 0, none⟩ = some (.int .i64 x.f0) := (blk_cell BK.out 0).trans rfl; (try clear zBK0); have zBK0 : World.frozen? _ ⟨gx, 0, none⟩ = false := blk_frozen BK.out 0; (try clear qBK1); have qBK1 : World.cell? _ ⟨gx, 1, none⟩ = some (.int .i64 x.f1) := (blk_cell BK.out 1).trans rfl; (try clear zBK1); have zBK1 : World.frozen? _ ⟨gx, 1, none⟩ = false := blk_frozen BK.out 1; (try clear qBK2); have qBK2 : World.cell? _ ⟨gx, 2, none⟩ = some (.int .i64 x.f2) := (blk_cell BK.out 2).trans rfl; (try clear zBK2); have zBK2 : World.frozen? _ ⟨gx, 2, none⟩ = false := blk_frozen BK.out 2; (try clear qBK3); have qBK3 : World.cell? _ ⟨gx, 3, none⟩ = some (.int .i64 x.f3) := (blk_cell BK.out 3).trans rfl; (try clear zBK3); have zBK3 : World.frozen? _ ⟨gx, 3, none⟩ = false := blk_frozen BK.out 3; (try clear qBK4); have qBK4 : World.cell? _ ⟨gx, 4, none⟩ = some (.bool x.f4) := (blk_cell BK.out 4).trans rfl; (try clear zBK4); have zBK4 : World.frozen? _ ⟨gx, 4, none⟩ = false := blk_frozen BK.out 4
  refine start_ (n := 8) (S := fun w' => Below w1.drew.heap.size w1.drew w') (ds := []) #[false, false, false, false, false, false, false, false] (by kernel_rfl) rfl rfl (Below.refl _ _) (fun hHeld => ?_)
  generalize w1.drew = wR at HB BS HRr HRo BK hHeld ⊢
  refine pure_ (i := 0) (N := (some 7)) (v := ?_) (a' := ?_) #[true, false, false, false, false, false, false, false] rfl rfl (by kernel_rfl) (fun _ _ _ h => h) (Or.inl ⟨by rfl, ?_⟩) ?_ ?_
  rotate_left
  · intro w'
    go_simp
    with_reducible rfl
  rotate_left
  · (try simp only [Act.put, List.setIfInBounds_toArray, List.set_cons_zero, List.set_cons_succ, i64_w, i32_w])
    rfl
  refine pure_ (i := 1) (N := (some 8)) (v := ?_) (a' := ?_) #[true, true, false, false, false, false, false, false] rfl rfl (by kernel_rfl) (fun _ _ _ h => h) (Or.inl ⟨by rfl, ?_⟩) ?_ ?_
  rotate_left
  · intro w'
    go_simp
    with_reducible rfl
  rotate_left
  · (try simp only [Act.put, List.setIfInBounds_toArray, List.set_cons_zero, List.set_cons_succ, i64_w, i32_w])
    rfl
  refine pure_ (i := 2) (N := (some 9)) (v := ?_) (a' := ?_) #[true, true, true, false, false, false, false, false] rfl rfl (by kernel_rfl) (fun _ _ _ h => h) (Or.inl ⟨by rfl, ?_⟩) ?_ ?_
  rotate_left
  · intro w'
    go_simp
    with_reducible rfl
  rotate_left
  · (try simp only [Act.put, List.setIfInBounds_toArray, List.set_cons_zero, List.set_cons_succ, i64_w, i32_w])
    rfl
  refine take_ (i := 3) (N := some 10) (v := ?_) (a' := ?_) #[true, true, true, true, false, false, false, false] rfl rfl (by kernel_rfl) (fun _ _ _ h => h) (Or.inl ⟨by rfl, ?_⟩) hHeld ?_ ?_
  rotate_left
  · intro w' s0
    have q0 : World.cell? w' ⟨g, 0, none⟩ = some (.slice Ar rs.length cr) := (blk_cell (blk_below BS.out s0) 0).trans rfl
    have q1 : World.cell? w' ⟨g, 1, none⟩ = some (.slice Ao os.length co) := (blk_cell (blk_below BS.out s0) 1).trans rfl
    go_simp
    with_reducible rfl
  rotate_left
  · (try simp only [Act.put, List.setIfInBounds_toArray, List.set_cons_zero, List.set_cons_succ, i64_w, i32_w])
    rfl
  refine pure_ (i := 4) (N := (some 11)) (v := ?_) (a' := ?_) #[true, true, true, true, true, false, false, false] rfl rfl (by kernel_rfl) (fun _ _ _ h => h) (Or.inl ⟨by rfl, ?_⟩) ?_ ?_
  rotate_left
  · intro w'
    go_simp
    with_reducible rfl
  rotate_left
  · (try simp only [Act.put, List.setIfInBounds_toArray, List.set_cons_zero, List.set_cons_succ, i64_w, i32_w])
    rfl
  refine take_ (i := 5) (N := some 12) (v := ?_) (a' := ?_) #[true, true, true, true, true, true, false, false] rfl rfl (by kernel_rfl) (fun _ _ _ h => h) (Or.inl ⟨by rfl, ?_⟩) hHeld ?_ ?_
  rotate_left
  · intro w' s0
    have q0 : World.cell? w' ⟨gx, 0, none⟩ = some (.int .i64 x.f0) := (blk_cell (blk_below BK.out s0) 0).trans rfl
    have q1 : World.cell? w' ⟨gx, 1, none⟩ = some (.int .i64 x.f1) := (blk_cell (blk_below BK.out s0) 1).trans rfl
    have q2 : World.cell? w' ⟨gx, 2, none⟩ = some (.int .i64 x.f2) := (blk_cell (blk_below BK.out s0) 2).trans rfl
    have q3 : World.cell? w' ⟨gx, 3, none⟩ = some (.int .i64 x.f3) := (blk_cell (blk_below BK.out s0) 3).trans rfl
    have q4 : World.cell? w' ⟨gx, 4, none⟩ = some (.bool x.f4) := (blk_cell (blk_below BK.out s0) 4).trans rfl
    go_simp
    with_reducible rfl
  rotate_left
  · (try simp only [Act.put, List.setIfInBounds_toArray, List.set_cons_zero, List.set_cons_succ, i64_w, i32_w])
    rfl
  refine one_ (i := 6) (N := (some 13)) #[true, true, true, true, true, true, true, false] rfl rfl (by kernel_rfl) (by decide) (fun K hK => ?_)
  refine goes_ Try.func27 (by kernel_rfl) rfl #[.slice Ao os.length co, .func (.func 28) #[] #[], .int .i64 x.f0] (by rfl) rfl rfl (by (try simp only [List.map_toArray, List.map_cons, List.map_nil]); first | done | rfl | (simp only [List.length_drop, List.length_take]; rfl)) ?_
  refine (find33_callsE Ao co os x.f0 (k : Int) _ (Kd.R_reads' HRo.out).2.2 HF.out).mono ?_
  rintro e w4 ⟨rfl, hb⟩
  refine ⟨_, rfl, ?_⟩
  have hh := below_step hHeld hb; clear hHeld; have hHeld := hh; clear hh
  have n_HB := Aside0.mk (below_step HB.out hb); have n_BS := Aside0.mk (blk_below BS.out hb); have n_HRr := Aside0.mk (Kd.R_below HRr.out hb); have n_HRo := Aside0.mk (Kd.R_below HRo.out hb); have n_BK := Aside0.mk (blk_below BK.out hb); clear HB BS HRr HRo BK; have HB := n_HB; clear n_HB; have BS := n_BS; clear n_BS; have HRr := n_HRr; clear n_HRr; have HRo := n_HRo; clear n_HRo; have BK := n_BK; clear n_BK; (try clear qBS0); have qBS0 : World.cell? _ ⟨g, 0, none⟩ = some (.slice Ar rs.length cr) := (blk_cell BS.out 0).trans rfl; (try clear zBS0); have zBS0 : World.frozen? _ ⟨g, 0, none⟩ = false := blk_frozen BS.out 0; (try clear qBS1); have qBS1 : World.cell? _ ⟨g, 1, none⟩ = some (.slice Ao os.length co) := (blk_cell BS.out 1).trans rfl; (try clear zBS1); have zBS1 : World.frozen? _ ⟨g, 1, none⟩ = false := blk_frozen BS.out 1; (try clear qBK0); have qBK0 : World.cell? _ ⟨gx, 0, none⟩ = some (.int .i64 x.f0) := (blk_cell BK.out 0).trans rfl; (try clear zBK0); have zBK0 : World.frozen? _ ⟨gx, 0, none⟩ = false := blk_frozen BK.out 0; (try clear qBK1); have qBK1 : World.cell? _ ⟨gx, 1, none⟩ = some (.int .i64 x.f1) := (blk_cell BK.out 1).trans rfl; (try clear zBK1); have zBK1 : World.frozen? _ ⟨gx, 1, none⟩ = false := blk_frozen BK.out 1; (try clear qBK2); have qBK2 : World.cell? _ ⟨gx, 2, none⟩ = some (.int .i64 x.f2) := (blk_cell BK.out 2).trans rfl; (try clear zBK2); have zBK2 : World.frozen? _ ⟨gx, 2, none⟩ = false := blk_frozen BK.out 2; (try clear qBK3); have qBK3 : World.cell? _ ⟨gx, 3, none⟩ = some (.int .i64 x.f3) := (blk_cell BK.out 3).trans rfl; (try clear zBK3); have zBK3 : World.frozen? _ ⟨gx, 3, none⟩ = false := blk_frozen BK.out 3; (try clear qBK4); have qBK4 : World.cell? _ ⟨gx, 4, none⟩ = some (.bool x.f4) := (blk_cell BK.out 4).trans rfl; (try clear zBK4); have zBK4 : World.frozen? _ ⟨gx, 4, none⟩ = false := blk_frozen BK.out 4
  clear hb
  refine hK.out _ _ hHeld (fun _ => ?_)
  clear hK K
  refine norm_ (a' := ?_) ?_ ?_
  rotate_left
  · show Act.put _ (some 13) _ = _
    (try simp only [Act.put, List.setIfInBounds_toArray, List.set_cons_zero, List.set_cons_succ, i64_w, i32_w])
    rfl
  refine pure_ (i := 7) (N := (some 4)) (v := ?_) (a' := ?_) #[true, true, true, true, true, true, true, true] rfl rfl (by kernel_rfl) (fun _ _ _ h => h) (Or.inl ⟨by rfl, ?_⟩) ?_ ?_
  rotate_left
  · intro w'
    go_simp
    with_reducible rfl
  rotate_left
  · (try simp only [Act.put, List.setIfInBounds_toArray, List.set_cons_zero, List.set_cons_succ, i64_w, i32_w])
    rfl
  refine done_ (by kernel_rfl) ?_
  obtain ⟨b, eb, hbb⟩ := block33 HRo.out HK.out
  subst eb
  (try clear qBS0)
  have qBS0 : World.cell? _ ⟨g, 0, none⟩ = some (.slice Ar rs.length cr) := (blk_cell BS.out 0).trans rfl
  (try clear zBS0)
  have zBS0 : World.frozen? _ ⟨g, 0, none⟩ = false := blk_frozen BS.out 0
  (try clear qBS1)
  have qBS1 : World.cell? _ ⟨g, 1, none⟩ = some (.slice (some ⟨b, 0, none⟩) os.length co) := (blk_cell BS.out 1).trans rfl
  (try clear zBS1)
  have zBS1 : World.frozen? _ ⟨g, 1, none⟩ = false := blk_frozen BS.out 1
  (try clear qBK0)
  have qBK0 : World.cell? _ ⟨gx, 0, none⟩ = some (.int .i64 x.f0) := (blk_cell BK.out 0).trans rfl
  (try clear zBK0)
  have zBK0 : World.frozen? _ ⟨gx, 0, none⟩ = false := blk_frozen BK.out 0
  (try clear qBK1)
  have qBK1 : World.cell? _ ⟨gx, 1, none⟩ = some (.int .i64 x.f1) := (blk_cell BK.out 1).trans rfl
  (try clear zBK1)
  have zBK1 : World.frozen? _ ⟨gx, 1, none⟩ = false := blk_frozen BK.out 1
  (try clear qBK2)
  have qBK2 : World.cell? _ ⟨gx, 2, none⟩ = some (.int .i64 x.f2) := (blk_cell BK.out 2).trans rfl
  (try clear zBK2)
  have zBK2 : World.frozen? _ ⟨gx, 2, none⟩ = false := blk_frozen BK.out 2
  (try clear qBK3)
  have qBK3 : World.cell? _ ⟨gx, 3, none⟩ = some (.int .i64 x.f3) := (blk_cell BK.out 3).trans rfl
  (try clear zBK3)
  have zBK3 : World.frozen? _ ⟨gx, 3, none⟩ = false := blk_frozen BK.out 3
  (try clear qBK4)
  have qBK4 : World.cell? _ ⟨gx, 4, none⟩ = some (.bool x.f4) := (blk_cell BK.out 4).trans rfl
  (try clear zBK4)
  have zBK4 : World.frozen? _ ⟨gx, 4, none⟩ = false := blk_frozen BK.out 4
  go_upto_region 4 with (fail)
  have hlt : (k : Int) < (os.length : Int) := by have := HK.out; omega
  have n_HB := Aside0.mk (below_drew1 HB.out); have n_BS := Aside0.mk (blk_drew BS.out); have n_HRr := Aside0.mk (Kd.R_drew HRr.out); have n_HRo := Aside0.mk (Kd.R_drew HRo.out); have n_BK := Aside0.mk (blk_drew BK.out); clear HB BS HRr HRo BK; have HB := n_HB; clear n_HB; have BS := n_BS; clear n_BS; have HRr := n_HRr; clear n_HRr; have HRo := n_HRo; clear n_HRo; have BK := n_BK; clear n_BK; (try clear qBS0); have qBS0 : World.cell? _ ⟨g, 0, none⟩ = some (.slice Ar rs.length cr) := (blk_cell BS.out 0).trans rfl; (try clear zBS0); have zBS0 : World.frozen? _ ⟨g, 0, none⟩ = false := blk_frozen BS.out 0; (try clear qBS1); have qBS1 : World.cell? _ ⟨g, 1, none⟩ = some (.slice (some ⟨b, 0, none⟩) os.length co) := (blk_cell BS.out 1).trans rfl; (try clear zBS1); have zBS1 : World.frozen? _ ⟨g, 1, none⟩ = false := blk_frozen BS.out 1; (try clear qBK0); have qBK0 : World.cell? _ ⟨gx, 0, none⟩ = some (.int .i64 x.f0) := (blk_cell BK.out 0).trans rfl; (try clear zBK0); have zBK0 : World.frozen? _ ⟨gx, 0, none⟩ = false := blk_frozen BK.out 0; (try clear qBK1); have qBK1 : World.cell? _ ⟨gx, 1, none⟩ = some (.int .i64 x.f1) := (blk_cell BK.out 1).trans rfl; (try clear zBK1); have zBK1 : World.frozen? _ ⟨gx, 1, none⟩ = false := blk_frozen BK.out 1; (try clear qBK2); have qBK2 : World.cell? _ ⟨gx, 2, none⟩ = some (.int .i64 x.f2) := (blk_cell BK.out 2).trans rfl; (try clear zBK2); have zBK2 : World.frozen? _ ⟨gx, 2, none⟩ = false := blk_frozen BK.out 2; (try clear qBK3); have qBK3 : World.cell? _ ⟨gx, 3, none⟩ = some (.int .i64 x.f3) := (blk_cell BK.out 3).trans rfl; (try clear zBK3); have zBK3 : World.frozen? _ ⟨gx, 3, none⟩ = false := blk_frozen BK.out 3; (try clear qBK4); have qBK4 : World.cell? _ ⟨gx, 4, none⟩ = some (.bool x.f4) := (blk_cell BK.out 4).trans rfl; (try clear zBK4); have zBK4 : World.frozen? _ ⟨gx, 4, none⟩ = false := blk_frozen BK.out 4
  refine start_ (n := 8) (S := fun w' => Below w4.drew.heap.size w4.drew w') (ds := [7]) #[false, false, false, false, false, false, false, false] (by kernel_rfl) rfl rfl (Below.refl _ _) (fun hHeld => ?_)
  generalize w4.drew = wS at HB BS HRr HRo BK hHeld ⊢
  refine pure_ (i := 0) (N := (some 16)) (v := ?_) (a' := ?_) #[true, false, false, false, false, false, false, false] rfl rfl (by kernel_rfl) (fun _ _ _ h => h) (Or.inl ⟨by rfl, ?_⟩) ?_ ?_
  rotate_left
  · intro w'
    go_simp
    with_reducible rfl
  rotate_left
  · (try simp only [Act.put, List.setIfInBounds_toArray, List.set_cons_zero, List.set_cons_succ, i64_w, i32_w])
    rfl
  refine pure_ (i := 1) (N := (some 17)) (v := ?_) (a' := ?_) #[true, true, false, false, false, false, false, false] rfl rfl (by kernel_rfl) (fun _ _ _ h => h) (Or.inl ⟨by rfl, ?_⟩) ?_ ?_
  rotate_left
  · intro w'
    go_simp
    with_reducible rfl
  rotate_left
  · (try simp only [Act.put, List.setIfInBounds_toArray, List.set_cons_zero, List.set_cons_succ, i64_w, i32_w])
    rfl
  refine pure_ (i := 2) (N := (some 18)) (v := ?_) (a' := ?_) #[true, true, true, false, false, false, false, false] rfl rfl (by kernel_rfl) (fun _ _ _ h => h) (Or.inl ⟨by rfl, ?_⟩) ?_ ?_
  rotate_left
  · intro w'
    go_simp
    with_reducible rfl
  rotate_left
  · (try simp only [Act.put, List.setIfInBounds_toArray, List.set_cons_zero, List.set_cons_succ, i64_w, i32_w])
    rfl
  refine take_ (i := 3) (N := some 19) (v := ?_) (a' := ?_) #[true, true, true, true, false, false, false, false] rfl rfl (by kernel_rfl) (fun _ _ _ h => h) (Or.inl ⟨by rfl, ?_⟩) hHeld ?_ ?_
  rotate_left
  · intro w' s0
    have q0 : World.cell? w' ⟨g, 0, none⟩ = some (.slice Ar rs.length cr) := (blk_cell (blk_below BS.out s0) 0).trans rfl
    have q1 : World.cell? w' ⟨g, 1, none⟩ = some (.slice (some ⟨b, 0, none⟩) os.length co) := (blk_cell (blk_below BS.out s0) 1).trans rfl
    go_simp
    with_reducible rfl
  rotate_left
  · (try simp only [Act.put, List.setIfInBounds_toArray, List.set_cons_zero, List.set_cons_succ, i64_w, i32_w])
    rfl
  refine pure_ (i := 4) (N := (some 20)) (v := ?_) (a' := ?_) #[true, true, true, true, true, false, false, false] rfl rfl (by kernel_rfl) (fun _ _ _ h => h) (Or.inl ⟨by rfl, ?_⟩) ?_ ?_
  rotate_left
  · intro w'
    go_simp
    with_reducible rfl
  rotate_left
  · (try simp only [Act.put, List.setIfInBounds_toArray, List.set_cons_zero, List.set_cons_succ, i64_w, i32_w])
    rfl
  refine take_ (i := 5) (N := some 21) (v := ?_) (a' := ?_) #[true, true, true, true, true, true, false, false] rfl rfl (by kernel_rfl) (fun _ _ _ h => h) (Or.inl ⟨by rfl, ?_⟩) hHeld ?_ ?_
  rotate_left
  · intro w' s0
    have q0 : World.cell? w' ⟨gx, 0, none⟩ = some (.int .i64 x.f0) := (blk_cell (blk_below BK.out s0) 0).trans rfl
    have q1 : World.cell? w' ⟨gx, 1, none⟩ = some (.int .i64 x.f1) := (blk_cell (blk_below BK.out s0) 1).trans rfl
    have q2 : World.cell? w' ⟨gx, 2, none⟩ = some (.int .i64 x.f2) := (blk_cell (blk_below BK.out s0) 2).trans rfl
    have q3 : World.cell? w' ⟨gx, 3, none⟩ = some (.int .i64 x.f3) := (blk_cell (blk_below BK.out s0) 3).trans rfl
    have q4 : World.cell? w' ⟨gx, 4, none⟩ = some (.bool x.f4) := (blk_cell (blk_below BK.out s0) 4).trans rfl
    go_simp
    with_reducible rfl
  rotate_left
  · (try simp only [Act.put, List.setIfInBounds_toArray, List.set_cons_zero, List.set_cons_succ, i64_w, i32_w])
    rfl
  refine pure_ (i := 6) (N := (some 22)) (v := ?_) (a' := ?_) #[true, true, true, true, true, true, true, false] rfl rfl (by kernel_rfl) (fun _ _ _ h => h) (Or.inl ⟨by rfl, ?_⟩) ?_ ?_
  rotate_left
  · intro w'
    go_simp
    with_reducible rfl
  rotate_left
  · (try simp only [Act.put, List.setIfInBounds_toArray, List.set_cons_zero, List.set_cons_succ, i64_w, i32_w])
    rfl
  refine last_ (i := 7) (N := none) #[true, true, true, true, true, true, true, true] rfl rfl (by kernel_rfl) (by decide) (fun K hK => ?_)
  refine skip_ (w1 := (World.setCell (World.setCell (World.setCell (World.setCell (World.setCell wS ⟨b, k * 5, none⟩ (.int .i64 x.f0)) ⟨b, k * 5 + 1, none⟩ (.int .i64 x.f1)) ⟨b, k * 5 + 2, none⟩ (.int .i64 x.f2)) ⟨b, k * 5 + 3, none⟩ (.int .i64 x.f3)) ⟨b, k * 5 + 4, none⟩ (.bool x.f4))) (by rfl) rfl ?_ ?_
  · have z0 := frozen33 HRo.out (k * 5); have z1 := frozen33 HRo.out (k * 5 + 1); have z2 := frozen33 HRo.out (k * 5 + 2); have z3 := frozen33 HRo.out (k * 5 + 3); have z4 := frozen33 HRo.out (k * 5 + 4); obtain ⟨u0, y0⟩ := cell33 HRo.out (k * 5) (by have := HK.out; omega); obtain ⟨u1, y1⟩ := cell33 HRo.out (k * 5 + 1) (by have := HK.out; omega); obtain ⟨u2, y2⟩ := cell33 HRo.out (k * 5 + 2) (by have := HK.out; omega); obtain ⟨u3, y3⟩ := cell33 HRo.out (k * 5 + 3) (by have := HK.out; omega); obtain ⟨u4, y4⟩ := cell33 HRo.out (k * 5 + 4) (by have := HK.out; omega); go_simp
  refine hK.out _ _ ?_
  clear hK K
  refine done_ (by kernel_rfl) ?_
  obtain ⟨s1, s2⟩ := store33 HRo.out x HK.out
  try go_wp2
  first | go_end0 | ((try simp only [Exit.inBlock, Exit.then]); refine bodyPost_ret (results_none rfl _ _ _) rfl ?_)
  have hg := (Fr.of_below HB.out : Fr [64, 33] w wS).grown s2 (fun k hk => by obtain ⟨cs, hcs⟩ := Kd.R_typed HRo.out k hk; exact ⟨cs, 33, _, hcs, by decide⟩)
  have hs : Fr [33] wS _ := (Fr.refl _ _).grown s2 (fun k hk => by obtain ⟨cs, hcs⟩ := Kd.R_typed HRo.out k hk; exact ⟨cs, 33, _, hcs, by decide⟩)
  exact ⟨rfl, ⟨_, _, hs.blk BS.out (by decide), GE.out, R_fr rfl HRr.out hs (by decide), s1⟩, hg, (HB.out.mono HBASE.out).grown s2 (Nat.le_trans HBASE.out (below_size HB.out)) (fun k hk => by injection hk with hk; exact hk ▸ hbb)⟩
end Go.Proofs.Ytfiniikeoemleaa.R
