/- The set's state, and what only reads it. No condition but the state. Printed by wip/dev/gen12b.py. -/
import Derived.Test.YtfiniikeoemleaaRFind
namespace Go.Proofs.Ytfiniikeoemleaa.R
open Go Go.RowKit Go.Proofs.YtfiniikeoemleaaW.PrintWords Go.Proofs.YtfiniikeoemleaaW.PrintLast Go.Proofs.YtfiniikeoemleaaW.PrintMore
attribute [local go_sem] max2_int min2_int max_two min_two max_three min_three max_four min_four
set_option linter.unusedVariables false
set_option linter.unusedSimpArgs false

/-- A set: two rows of its own behind its block. -/
def IsR (base : Nat) (w : World) (g : Nat) (rs : List S30) (os : List S33) : Prop :=
  ∃ vr vo, w.heap[g]? = some (.cells #[vr, vo] 64 (0, 0)) ∧ base ≤ g ∧ Kd.R k30 30 w base (fun _ => True) vr rs ∧ Kd.R k33 33 w base (fun _ => True) vo os
theorem IsR.below {base : Nat} {w w' : World} {g : Nat} {rs : List S30} {os : List S33} (h : IsR base w g rs os) (hb : Below w.heap.size w w') : IsR base w' g rs os := by
  obtain ⟨vr, vo, h1, h2, h3, h4⟩ := h
  exact ⟨vr, vo, blk_below h1 hb, h2, Kd.R_below h3 hb, Kd.R_below h4 hb⟩
theorem IsR.fr {base : Nat} {w w' : World} {ts : List Nat} {g : Nat} {rs : List S30} {os : List S33} (h : IsR base w g rs os) (hf : Fr ts w w') (h1 : 64 ∉ ts) (h2 : 30 ∉ ts) (h3 : 33 ∉ ts) : IsR base w' g rs os := by
  obtain ⟨vr, vo, a1, a2, a3, a4⟩ := h
  exact ⟨vr, vo, hf.blk a1 h1, a2, R_fr rfl a3 hf h2, R_fr rfl a4 hf h3⟩
theorem find30_callsE (A0 : Option Addr) (c0 : Nat) (l0 : List S30) (o r : Int) (w : World) (hr0 : Kd.C k30 w A0 l0.length l0) (h : find30 l0 o = r) :
    Calls Try.prog 25 #[.slice A0 l0.length c0, .func (.func 26) #[] #[], .int .i64 o] w fun e w' => e = .returned (.int .i64 r) ∧ Below w.heap.size w w' := h ▸ find30_calls A0 c0 l0 o w hr0
theorem find33_callsE (A0 : Option Addr) (c0 : Nat) (l0 : List S33) (o r : Int) (w : World) (hr0 : Kd.C k33 w A0 l0.length l0) (h : find33 l0 o = r) :
    Calls Try.prog 27 #[.slice A0 l0.length c0, .func (.func 28) #[] #[], .int .i64 o] w fun e w' => e = .returned (.int .i64 r) ∧ Below w.heap.size w w' := h ▸ find33_calls A0 c0 l0 o w hr0

/-- What is of an object, and whether there is. -/
def has30 (l : List S30) (o : Int) : S30 × Bool := if find30 l o = -1 then (z30, false) else (rd_T30 l (find30 l o), true)
set_option maxHeartbeats 8000000 in
set_option maxRecDepth 100000 in
theorem has30_calls (base g : Nat) (rs : List S30) (os : List S33) (o : Int) (w : World) (h : IsR base w g rs os) :
    Calls Try.prog 18 #[.pointer (some ⟨g, 0, none⟩), .int .i64 o] w fun e w' => e = .returned (.tuple #[.agg #[.int .i64 (has30 rs o).1.f0, .int .i64 (has30 rs o).1.f1, .int .i64 (has30 rs o).1.f2], .bool (has30 rs o).2]) ∧ Below w.heap.size w w' := by
  obtain ⟨vr, vo, hg0, hge, hr, ho⟩ := h
  obtain ⟨Ar, cr, er⟩ := Kd.R_slice hr
  obtain ⟨Ao, co, eo⟩ := Kd.R_slice ho
  subst er eo
  have BS := Aside0.mk hg0
  have HRr := Aside0.mk hr
  have HRo := Aside0.mk ho
  have GE := Aside0.mk hge
  have HB := Aside0.mk (Below.refl w.heap.size w)
  clear hg0 hge hr ho

  rcases find30_cases rs o with ⟨hf, _⟩ | ⟨k, hk, hf, hx, _⟩
  · have HF := Aside0.mk hf
    have E := Aside0.mk (show has30 rs o = (z30, false) by simp [has30, hf])
    rw [E.out]
    clear hf
    have hu := Try.underlying30
    (try clear qBS0)
    have qBS0 : World.cell? _ ⟨g, 0, none⟩ = some (.slice Ar rs.length cr) := (blk_cell BS.out 0).trans rfl
    (try clear zBS0)
    have zBS0 : World.frozen? _ ⟨g, 0, none⟩ = false := blk_frozen BS.out 0
    (try clear qBS1)
    have qBS1 : World.cell? _ ⟨g, 1, none⟩ = some (.slice Ao os.length co) := (blk_cell BS.out 1).trans rfl
    (try clear zBS1)
    have zBS1 : World.frozen? _ ⟨g, 1, none⟩ = false := blk_frozen BS.out 1
    go_enter Try.func18, Try.ntmps18
    go_wp2_with (first | ((with_reducible refine gate_dst (N := 4) rfl ?_); refine box_event ?hg (N := 4) ?hd (cs := #[.int .i64 0, .int .i64 0, .int .i64 0]) (t := 30) ?hr ?_; (case hd => rfl); (case hg => rfl); (case hr => first | (go_simp; done) | (go_simp; rfl)); intro gb hg w1 hbox hb; have GB := Aside0.mk ((by rw [hg]; exact below_size HB.out : w.heap.size ≤ gb)); have n_HB := Aside0.mk (below_step HB.out hb); have n_BS := Aside0.mk (blk_below BS.out hb); have n_HRr := Aside0.mk (Kd.R_below HRr.out hb); have n_HRo := Aside0.mk (Kd.R_below HRo.out hb); have n_BK := Aside0.mk (hbox); clear HB BS HRr HRo; have HB := n_HB; clear n_HB; have BS := n_BS; clear n_BS; have HRr := n_HRr; clear n_HRr; have HRo := n_HRo; clear n_HRo; have BK := n_BK; clear n_BK; (try clear qBS0); have qBS0 : World.cell? _ ⟨g, 0, none⟩ = some (.slice Ar rs.length cr) := (blk_cell BS.out 0).trans rfl; (try clear zBS0); have zBS0 : World.frozen? _ ⟨g, 0, none⟩ = false := blk_frozen BS.out 0; (try clear qBS1); have qBS1 : World.cell? _ ⟨g, 1, none⟩ = some (.slice Ao os.length co) := (blk_cell BS.out 1).trans rfl; (try clear zBS1); have zBS1 : World.frozen? _ ⟨g, 1, none⟩ = false := blk_frozen BS.out 1; (try clear qBK0); have qBK0 : World.cell? _ ⟨gb, 0, none⟩ = some (.int .i64 0) := (blk_cell BK.out 0).trans rfl; (try clear zBK0); have zBK0 : World.frozen? _ ⟨gb, 0, none⟩ = false := blk_frozen BK.out 0; (try clear qBK1); have qBK1 : World.cell? _ ⟨gb, 1, none⟩ = some (.int .i64 0) := (blk_cell BK.out 1).trans rfl; (try clear zBK1); have zBK1 : World.frozen? _ ⟨gb, 1, none⟩ = false := blk_frozen BK.out 1; (try clear qBK2); have qBK2 : World.cell? _ ⟨gb, 2, none⟩ = some (.int .i64 0) := (blk_cell BK.out 2).trans rfl; (try clear zBK2); have zBK2 : World.frozen? _ ⟨gb, 2, none⟩ = false := blk_frozen BK.out 2; clear hbox hb; (try clear hg)) | ((with_reducible refine gate_callee (f := 25) rfl ?_); refine goesL_ (some 14) rfl rfl Try.func25 (by kernel_rfl) rfl #[.slice Ar rs.length cr, .func (.func 26) #[] #[], .int .i64 o] rfl (by (try simp only [List.map_toArray, List.map_cons, List.map_nil]); first | done | rfl | (simp only [List.length_drop, List.length_take]; rfl)) ?_; (refine (find30_callsE Ar cr rs o (-1) _ (Kd.R_reads' HRr.out).2.2 HF.out).mono ?_); rintro e w2 ⟨rfl, hb⟩; refine ⟨_, rfl, ?_⟩; have n_HB := Aside0.mk (below_step HB.out hb); have n_BS := Aside0.mk (blk_below BS.out hb); have n_HRr := Aside0.mk (Kd.R_below HRr.out hb); have n_HRo := Aside0.mk (Kd.R_below HRo.out hb); have n_BK := Aside0.mk (blk_below BK.out hb); clear HB BS HRr HRo BK; have HB := n_HB; clear n_HB; have BS := n_BS; clear n_BS; have HRr := n_HRr; clear n_HRr; have HRo := n_HRo; clear n_HRo; have BK := n_BK; clear n_BK; (try clear qBS0); have qBS0 : World.cell? _ ⟨g, 0, none⟩ = some (.slice Ar rs.length cr) := (blk_cell BS.out 0).trans rfl; (try clear zBS0); have zBS0 : World.frozen? _ ⟨g, 0, none⟩ = false := blk_frozen BS.out 0; (try clear qBS1); have qBS1 : World.cell? _ ⟨g, 1, none⟩ = some (.slice Ao os.length co) := (blk_cell BS.out 1).trans rfl; (try clear zBS1); have zBS1 : World.frozen? _ ⟨g, 1, none⟩ = false := blk_frozen BS.out 1; (try clear qBK0); have qBK0 : World.cell? _ ⟨gb, 0, none⟩ = some (.int .i64 0) := (blk_cell BK.out 0).trans rfl; (try clear zBK0); have zBK0 : World.frozen? _ ⟨gb, 0, none⟩ = false := blk_frozen BK.out 0; (try clear qBK1); have qBK1 : World.cell? _ ⟨gb, 1, none⟩ = some (.int .i64 0) := (blk_cell BK.out 1).trans rfl; (try clear zBK1); have zBK1 : World.frozen? _ ⟨gb, 1, none⟩ = false := blk_frozen BK.out 1; (try clear qBK2); have qBK2 : World.cell? _ ⟨gb, 2, none⟩ = some (.int .i64 0) := (blk_cell BK.out 2).trans rfl; (try clear zBK2); have zBK2 : World.frozen? _ ⟨gb, 2, none⟩ = false := blk_frozen BK.out 2; clear hb))
    refine bodyPost_ret (results_ct rfl _ _ gb 30 #[.int .i64 0, .int .i64 0, .int .i64 0] (0, 0) _ rfl (by refine blk_put (cs := #[.int .i64 0, .int .i64 0, .int .i64 0]) ?_ 2 _ rfl; refine blk_put (cs := #[.int .i64 0, .int .i64 0, .int .i64 0]) ?_ 1 _ rfl; refine blk_put (cs := #[.int .i64 0, .int .i64 0, .int .i64 0]) ?_ 0 _ rfl; exact BK.out) Try.underlying30 rfl (by kernel_rfl)) rfl ?_
    exact ⟨by rfl, by repeat (first | exact HB.out | refine below_set ?_ GB.out)⟩
  · have HF := Aside0.mk hf
    have hrd : rd_T30 rs (k : Int) = rs[k] := by simp [rd_T30, hk]
    have E := Aside0.mk (show has30 rs o = (rs[k], true) by simp [has30, hf, hrd])
    rw [E.out]
    have hkz : (k : Int) < (rs.length : Int) := by omega
    have h0k : (0 : Int) ≤ (k : Int) := by omega
    clear hf hx
    generalize rs[k] = x at hrd ⊢
    have hu := Try.underlying30
    (try clear qBS0)
    have qBS0 : World.cell? _ ⟨g, 0, none⟩ = some (.slice Ar rs.length cr) := (blk_cell BS.out 0).trans rfl
    (try clear zBS0)
    have zBS0 : World.frozen? _ ⟨g, 0, none⟩ = false := blk_frozen BS.out 0
    (try clear qBS1)
    have qBS1 : World.cell? _ ⟨g, 1, none⟩ = some (.slice Ao os.length co) := (blk_cell BS.out 1).trans rfl
    (try clear zBS1)
    have zBS1 : World.frozen? _ ⟨g, 1, none⟩ = false := blk_frozen BS.out 1
    go_enter Try.func18, Try.ntmps18
    go_upto_region 3 with (first | ((with_reducible refine gate_dst (N := 4) rfl ?_); refine box_event ?hg (N := 4) ?hd (cs := #[.int .i64 0, .int .i64 0, .int .i64 0]) (t := 30) ?hr ?_; (case hd => rfl); (case hg => rfl); (case hr => first | (go_simp; done) | (go_simp; rfl)); intro gb hg w1 hbox hb; have GB := Aside0.mk ((by rw [hg]; exact below_size HB.out : w.heap.size ≤ gb)); have n_HB := Aside0.mk (below_step HB.out hb); have n_BS := Aside0.mk (blk_below BS.out hb); have n_HRr := Aside0.mk (Kd.R_below HRr.out hb); have n_HRo := Aside0.mk (Kd.R_below HRo.out hb); have n_BK := Aside0.mk (hbox); clear HB BS HRr HRo; have HB := n_HB; clear n_HB; have BS := n_BS; clear n_BS; have HRr := n_HRr; clear n_HRr; have HRo := n_HRo; clear n_HRo; have BK := n_BK; clear n_BK; (try clear qBS0); have qBS0 : World.cell? _ ⟨g, 0, none⟩ = some (.slice Ar rs.length cr) := (blk_cell BS.out 0).trans rfl; (try clear zBS0); have zBS0 : World.frozen? _ ⟨g, 0, none⟩ = false := blk_frozen BS.out 0; (try clear qBS1); have qBS1 : World.cell? _ ⟨g, 1, none⟩ = some (.slice Ao os.length co) := (blk_cell BS.out 1).trans rfl; (try clear zBS1); have zBS1 : World.frozen? _ ⟨g, 1, none⟩ = false := blk_frozen BS.out 1; (try clear qBK0); have qBK0 : World.cell? _ ⟨gb, 0, none⟩ = some (.int .i64 0) := (blk_cell BK.out 0).trans rfl; (try clear zBK0); have zBK0 : World.frozen? _ ⟨gb, 0, none⟩ = false := blk_frozen BK.out 0; (try clear qBK1); have qBK1 : World.cell? _ ⟨gb, 1, none⟩ = some (.int .i64 0) := (blk_cell BK.out 1).trans rfl; (try clear zBK1); have zBK1 : World.frozen? _ ⟨gb, 1, none⟩ = false := blk_frozen BK.out 1; (try clear qBK2); have qBK2 : World.cell? _ ⟨gb, 2, none⟩ = some (.int .i64 0) := (blk_cell BK.out 2).trans rfl; (try clear zBK2); have zBK2 : World.frozen? _ ⟨gb, 2, none⟩ = false := blk_frozen BK.out 2; clear hbox hb; (try clear hg)) | ((with_reducible refine gate_callee (f := 25) rfl ?_); refine goesL_ (some 14) rfl rfl Try.func25 (by kernel_rfl) rfl #[.slice Ar rs.length cr, .func (.func 26) #[] #[], .int .i64 o] rfl (by (try simp only [List.map_toArray, List.map_cons, List.map_nil]); first | done | rfl | (simp only [List.length_drop, List.length_take]; rfl)) ?_; (refine (find30_callsE Ar cr rs o (k : Int) _ (Kd.R_reads' HRr.out).2.2 HF.out).mono ?_); rintro e w2 ⟨rfl, hb⟩; refine ⟨_, rfl, ?_⟩; have n_HB := Aside0.mk (below_step HB.out hb); have n_BS := Aside0.mk (blk_below BS.out hb); have n_HRr := Aside0.mk (Kd.R_below HRr.out hb); have n_HRo := Aside0.mk (Kd.R_below HRo.out hb); have n_BK := Aside0.mk (blk_below BK.out hb); clear HB BS HRr HRo BK; have HB := n_HB; clear n_HB; have BS := n_BS; clear n_BS; have HRr := n_HRr; clear n_HRr; have HRo := n_HRo; clear n_HRo; have BK := n_BK; clear n_BK; (try clear qBS0); have qBS0 : World.cell? _ ⟨g, 0, none⟩ = some (.slice Ar rs.length cr) := (blk_cell BS.out 0).trans rfl; (try clear zBS0); have zBS0 : World.frozen? _ ⟨g, 0, none⟩ = false := blk_frozen BS.out 0; (try clear qBS1); have qBS1 : World.cell? _ ⟨g, 1, none⟩ = some (.slice Ao os.length co) := (blk_cell BS.out 1).trans rfl; (try clear zBS1); have zBS1 : World.frozen? _ ⟨g, 1, none⟩ = false := blk_frozen BS.out 1; (try clear qBK0); have qBK0 : World.cell? _ ⟨gb, 0, none⟩ = some (.int .i64 0) := (blk_cell BK.out 0).trans rfl; (try clear zBK0); have zBK0 : World.frozen? _ ⟨gb, 0, none⟩ = false := blk_frozen BK.out 0; (try clear qBK1); have qBK1 : World.cell? _ ⟨gb, 1, none⟩ = some (.int .i64 0) := (blk_cell BK.out 1).trans rfl; (try clear zBK1); have zBK1 : World.frozen? _ ⟨gb, 1, none⟩ = false := blk_frozen BK.out 1; (try clear qBK2); have qBK2 : World.cell? _ ⟨gb, 2, none⟩ = some (.int .i64 0) := (blk_cell BK.out 2).trans rfl; (try clear zBK2); have zBK2 : World.frozen? _ ⟨gb, 2, none⟩ = false := blk_frozen BK.out 2; clear hb))
    obtain ⟨ad, ea, h0, h1, h2⟩ := at_T30 (Kd.R_reads' HRr.out).2.2 (k : Int) (by omega) (by omega)
    subst ea
    simp only [Int.toNat_natCast] at h0 h1 h2
    have HX := Aside0.mk hrd; rw [HX.out] at h0 h1 h2
    clear hrd
    go_wp2
    refine bodyPost_ret (results_ct rfl _ _ gb 30 #[.int .i64 x.f0, .int .i64 x.f1, .int .i64 x.f2] (0, 0) _ rfl (by refine blk_put (cs := #[.int .i64 x.f0, .int .i64 x.f1, .int .i64 0]) ?_ 2 _ rfl; refine blk_put (cs := #[.int .i64 x.f0, .int .i64 0, .int .i64 0]) ?_ 1 _ rfl; refine blk_put (cs := #[.int .i64 0, .int .i64 0, .int .i64 0]) ?_ 0 _ rfl; exact BK.out) Try.underlying30 rfl (by kernel_rfl)) rfl ?_
    exact ⟨by rfl, by repeat (first | exact HB.out | refine below_set ?_ GB.out)⟩

/-- What is of an object, and whether there is. -/
def has33 (l : List S33) (o : Int) : S33 × Bool := if find33 l o = -1 then (z33, false) else (rd_T33 l (find33 l o), true)
set_option maxHeartbeats 8000000 in
set_option maxRecDepth 100000 in
theorem has33_calls (base g : Nat) (rs : List S30) (os : List S33) (o : Int) (w : World) (h : IsR base w g rs os) :
    Calls Try.prog 19 #[.pointer (some ⟨g, 0, none⟩), .int .i64 o] w fun e w' => e = .returned (.tuple #[.agg #[.int .i64 (has33 os o).1.f0, .int .i64 (has33 os o).1.f1, .int .i64 (has33 os o).1.f2, .int .i64 (has33 os o).1.f3, .bool (has33 os o).1.f4], .bool (has33 os o).2]) ∧ Below w.heap.size w w' := by
  obtain ⟨vr, vo, hg0, hge, hr, ho⟩ := h
  obtain ⟨Ar, cr, er⟩ := Kd.R_slice hr
  obtain ⟨Ao, co, eo⟩ := Kd.R_slice ho
  subst er eo
  have BS := Aside0.mk hg0
  have HRr := Aside0.mk hr
  have HRo := Aside0.mk ho
  have GE := Aside0.mk hge
  have HB := Aside0.mk (Below.refl w.heap.size w)
  clear hg0 hge hr ho

  rcases find33_cases os o with ⟨hf, _⟩ | ⟨k, hk, hf, hx, _⟩
  · have HF := Aside0.mk hf
    have E := Aside0.mk (show has33 os o = (z33, false) by simp [has33, hf])
    rw [E.out]
    clear hf
    have hu := Try.underlying33
    (try clear qBS0)
    have qBS0 : World.cell? _ ⟨g, 0, none⟩ = some (.slice Ar rs.length cr) := (blk_cell BS.out 0).trans rfl
    (try clear zBS0)
    have zBS0 : World.frozen? _ ⟨g, 0, none⟩ = false := blk_frozen BS.out 0
    (try clear qBS1)
    have qBS1 : World.cell? _ ⟨g, 1, none⟩ = some (.slice Ao os.length co) := (blk_cell BS.out 1).trans rfl
    (try clear zBS1)
    have zBS1 : World.frozen? _ ⟨g, 1, none⟩ = false := blk_frozen BS.out 1
    go_enter Try.func19, Try.ntmps19
    go_wp2_with (first | ((with_reducible refine gate_dst (N := 4) rfl ?_); refine box_event ?hg (N := 4) ?hd (cs := #[.int .i64 0, .int .i64 0, .int .i64 0, .int .i64 0, .bool false]) (t := 33) ?hr ?_; (case hd => rfl); (case hg => rfl); (case hr => first | (go_simp; done) | (go_simp; rfl)); intro gb hg w1 hbox hb; have GB := Aside0.mk ((by rw [hg]; exact below_size HB.out : w.heap.size ≤ gb)); have n_HB := Aside0.mk (below_step HB.out hb); have n_BS := Aside0.mk (blk_below BS.out hb); have n_HRr := Aside0.mk (Kd.R_below HRr.out hb); have n_HRo := Aside0.mk (Kd.R_below HRo.out hb); have n_BK := Aside0.mk (hbox); clear HB BS HRr HRo; have HB := n_HB; clear n_HB; have BS := n_BS; clear n_BS; have HRr := n_HRr; clear n_HRr; have HRo := n_HRo; clear n_HRo; have BK := n_BK; clear n_BK; (try clear qBS0); have qBS0 : World.cell? _ ⟨g, 0, none⟩ = some (.slice Ar rs.length cr) := (blk_cell BS.out 0).trans rfl; (try clear zBS0); have zBS0 : World.frozen? _ ⟨g, 0, none⟩ = false := blk_frozen BS.out 0; (try clear qBS1); have qBS1 : World.cell? _ ⟨g, 1, none⟩ = some (.slice Ao os.length co) := (blk_cell BS.out 1).trans rfl; (try clear zBS1); have zBS1 : World.frozen? _ ⟨g, 1, none⟩ = false := blk_frozen BS.out 1; (try clear qBK0); have qBK0 : World.cell? _ ⟨gb, 0, none⟩ = some (.int .i64 0) := (blk_cell BK.out 0).trans rfl; (try clear zBK0); have zBK0 : World.frozen? _ ⟨gb, 0, none⟩ = false := blk_frozen BK.out 0; (try clear qBK1); have qBK1 : World.cell? _ ⟨gb, 1, none⟩ = some (.int .i64 0) := (blk_cell BK.out 1).trans rfl; (try clear zBK1); have zBK1 : World.frozen? _ ⟨gb, 1, none⟩ = false := blk_frozen BK.out 1; (try clear qBK2); have qBK2 : World.cell? _ ⟨gb, 2, none⟩ = some (.int .i64 0) := (blk_cell BK.out 2).trans rfl; (try clear zBK2); have zBK2 : World.frozen? _ ⟨gb, 2, none⟩ = false := blk_frozen BK.out 2; (try clear qBK3); have qBK3 : World.cell? _ ⟨gb, 3, none⟩ = some (.int .i64 0) := (blk_cell BK.out 3).trans rfl; (try clear zBK3); have zBK3 : World.frozen? _ ⟨gb, 3, none⟩ = false := blk_frozen BK.out 3; (try clear qBK4); have qBK4 : World.cell? _ ⟨gb, 4, none⟩ = some (.bool false) := (blk_cell BK.out 4).trans rfl; (try clear zBK4); have zBK4 : World.frozen? _ ⟨gb, 4, none⟩ = false := blk_frozen BK.out 4; clear hbox hb; (try clear hg)) | ((with_reducible refine gate_callee (f := 27) rfl ?_); refine goesL_ (some 14) rfl rfl Try.func27 (by kernel_rfl) rfl #[.slice Ao os.length co, .func (.func 28) #[] #[], .int .i64 o] rfl (by (try simp only [List.map_toArray, List.map_cons, List.map_nil]); first | done | rfl | (simp only [List.length_drop, List.length_take]; rfl)) ?_; (refine (find33_callsE Ao co os o (-1) _ (Kd.R_reads' HRo.out).2.2 HF.out).mono ?_); rintro e w2 ⟨rfl, hb⟩; refine ⟨_, rfl, ?_⟩; have n_HB := Aside0.mk (below_step HB.out hb); have n_BS := Aside0.mk (blk_below BS.out hb); have n_HRr := Aside0.mk (Kd.R_below HRr.out hb); have n_HRo := Aside0.mk (Kd.R_below HRo.out hb); have n_BK := Aside0.mk (blk_below BK.out hb); clear HB BS HRr HRo BK; have HB := n_HB; clear n_HB; have BS := n_BS; clear n_BS; have HRr := n_HRr; clear n_HRr; have HRo := n_HRo; clear n_HRo; have BK := n_BK; clear n_BK; (try clear qBS0); have qBS0 : World.cell? _ ⟨g, 0, none⟩ = some (.slice Ar rs.length cr) := (blk_cell BS.out 0).trans rfl; (try clear zBS0); have zBS0 : World.frozen? _ ⟨g, 0, none⟩ = false := blk_frozen BS.out 0; (try clear qBS1); have qBS1 : World.cell? _ ⟨g, 1, none⟩ = some (.slice Ao os.length co) := (blk_cell BS.out 1).trans rfl; (try clear zBS1); have zBS1 : World.frozen? _ ⟨g, 1, none⟩ = false := blk_frozen BS.out 1; (try clear qBK0); have qBK0 : World.cell? _ ⟨gb, 0, none⟩ = some (.int .i64 0) := (blk_cell BK.out 0).trans rfl; (try clear zBK0); have zBK0 : World.frozen? _ ⟨gb, 0, none⟩ = false := blk_frozen BK.out 0; (try clear qBK1); have qBK1 : World.cell? _ ⟨gb, 1, none⟩ = some (.int .i64 0) := (blk_cell BK.out 1).trans rfl; (try clear zBK1); have zBK1 : World.frozen? _ ⟨gb, 1, none⟩ = false := blk_frozen BK.out 1; (try clear qBK2); have qBK2 : World.cell? _ ⟨gb, 2, none⟩ = some (.int .i64 0) := (blk_cell BK.out 2).trans rfl; (try clear zBK2); have zBK2 : World.frozen? _ ⟨gb, 2, none⟩ = false := blk_frozen BK.out 2; (try clear qBK3); have qBK3 : World.cell? _ ⟨gb, 3, none⟩ = some (.int .i64 0) := (blk_cell BK.out 3).trans rfl; (try clear zBK3); have zBK3 : World.frozen? _ ⟨gb, 3, none⟩ = false := blk_frozen BK.out 3; (try clear qBK4); have qBK4 : World.cell? _ ⟨gb, 4, none⟩ = some (.bool false) := (blk_cell BK.out 4).trans rfl; (try clear zBK4); have zBK4 : World.frozen? _ ⟨gb, 4, none⟩ = false := blk_frozen BK.out 4; clear hb))
    refine bodyPost_ret (results_ct rfl _ _ gb 33 #[.int .i64 0, .int .i64 0, .int .i64 0, .int .i64 0, .bool false] (0, 0) _ rfl (by refine blk_put (cs := #[.int .i64 0, .int .i64 0, .int .i64 0, .int .i64 0, .bool false]) ?_ 4 _ rfl; refine blk_put (cs := #[.int .i64 0, .int .i64 0, .int .i64 0, .int .i64 0, .bool false]) ?_ 3 _ rfl; refine blk_put (cs := #[.int .i64 0, .int .i64 0, .int .i64 0, .int .i64 0, .bool false]) ?_ 2 _ rfl; refine blk_put (cs := #[.int .i64 0, .int .i64 0, .int .i64 0, .int .i64 0, .bool false]) ?_ 1 _ rfl; refine blk_put (cs := #[.int .i64 0, .int .i64 0, .int .i64 0, .int .i64 0, .bool false]) ?_ 0 _ rfl; exact BK.out) Try.underlying33 rfl (by kernel_rfl)) rfl ?_
    exact ⟨by rfl, by repeat (first | exact HB.out | refine below_set ?_ GB.out)⟩
  · have HF := Aside0.mk hf
    have hrd : rd_T33 os (k : Int) = os[k] := by simp [rd_T33, hk]
    have E := Aside0.mk (show has33 os o = (os[k], true) by simp [has33, hf, hrd])
    rw [E.out]
    have hkz : (k : Int) < (os.length : Int) := by omega
    have h0k : (0 : Int) ≤ (k : Int) := by omega
    clear hf hx
    generalize os[k] = x at hrd ⊢
    have hu := Try.underlying33
    (try clear qBS0)
    have qBS0 : World.cell? _ ⟨g, 0, none⟩ = some (.slice Ar rs.length cr) := (blk_cell BS.out 0).trans rfl
    (try clear zBS0)
    have zBS0 : World.frozen? _ ⟨g, 0, none⟩ = false := blk_frozen BS.out 0
    (try clear qBS1)
    have qBS1 : World.cell? _ ⟨g, 1, none⟩ = some (.slice Ao os.length co) := (blk_cell BS.out 1).trans rfl
    (try clear zBS1)
    have zBS1 : World.frozen? _ ⟨g, 1, none⟩ = false := blk_frozen BS.out 1
    go_enter Try.func19, Try.ntmps19
    go_upto_region 3 with (first | ((with_reducible refine gate_dst (N := 4) rfl ?_); refine box_event ?hg (N := 4) ?hd (cs := #[.int .i64 0, .int .i64 0, .int .i64 0, .int .i64 0, .bool false]) (t := 33) ?hr ?_; (case hd => rfl); (case hg => rfl); (case hr => first | (go_simp; done) | (go_simp; rfl)); intro gb hg w1 hbox hb; have GB := Aside0.mk ((by rw [hg]; exact below_size HB.out : w.heap.size ≤ gb)); have n_HB := Aside0.mk (below_step HB.out hb); have n_BS := Aside0.mk (blk_below BS.out hb); have n_HRr := Aside0.mk (Kd.R_below HRr.out hb); have n_HRo := Aside0.mk (Kd.R_below HRo.out hb); have n_BK := Aside0.mk (hbox); clear HB BS HRr HRo; have HB := n_HB; clear n_HB; have BS := n_BS; clear n_BS; have HRr := n_HRr; clear n_HRr; have HRo := n_HRo; clear n_HRo; have BK := n_BK; clear n_BK; (try clear qBS0); have qBS0 : World.cell? _ ⟨g, 0, none⟩ = some (.slice Ar rs.length cr) := (blk_cell BS.out 0).trans rfl; (try clear zBS0); have zBS0 : World.frozen? _ ⟨g, 0, none⟩ = false := blk_frozen BS.out 0; (try clear qBS1); have qBS1 : World.cell? _ ⟨g, 1, none⟩ = some (.slice Ao os.length co) := (blk_cell BS.out 1).trans rfl; (try clear zBS1); have zBS1 : World.frozen? _ ⟨g, 1, none⟩ = false := blk_frozen BS.out 1; (try clear qBK0); have qBK0 : World.cell? _ ⟨gb, 0, none⟩ = some (.int .i64 0) := (blk_cell BK.out 0).trans rfl; (try clear zBK0); have zBK0 : World.frozen? _ ⟨gb, 0, none⟩ = false := blk_frozen BK.out 0; (try clear qBK1); have qBK1 : World.cell? _ ⟨gb, 1, none⟩ = some (.int .i64 0) := (blk_cell BK.out 1).trans rfl; (try clear zBK1); have zBK1 : World.frozen? _ ⟨gb, 1, none⟩ = false := blk_frozen BK.out 1; (try clear qBK2); have qBK2 : World.cell? _ ⟨gb, 2, none⟩ = some (.int .i64 0) := (blk_cell BK.out 2).trans rfl; (try clear zBK2); have zBK2 : World.frozen? _ ⟨gb, 2, none⟩ = false := blk_frozen BK.out 2; (try clear qBK3); have qBK3 : World.cell? _ ⟨gb, 3, none⟩ = some (.int .i64 0) := (blk_cell BK.out 3).trans rfl; (try clear zBK3); have zBK3 : World.frozen? _ ⟨gb, 3, none⟩ = false := blk_frozen BK.out 3; (try clear qBK4); have qBK4 : World.cell? _ ⟨gb, 4, none⟩ = some (.bool false) := (blk_cell BK.out 4).trans rfl; (try clear zBK4); have zBK4 : World.frozen? _ ⟨gb, 4, none⟩ = false := blk_frozen BK.out 4; clear hbox hb; (try clear hg)) | ((with_reducible refine gate_callee (f := 27) rfl ?_); refine goesL_ (some 14) rfl rfl Try.func27 (by kernel_rfl) rfl #[.slice Ao os.length co, .func (.func 28) #[] #[], .int .i64 o] rfl (by (try simp only [List.map_toArray, List.map_cons, List.map_nil]); first | done | rfl | (simp only [List.length_drop, List.length_take]; rfl)) ?_; (refine (find33_callsE Ao co os o (k : Int) _ (Kd.R_reads' HRo.out).2.2 HF.out).mono ?_); rintro e w2 ⟨rfl, hb⟩; refine ⟨_, rfl, ?_⟩; have n_HB := Aside0.mk (below_step HB.out hb); have n_BS := Aside0.mk (blk_below BS.out hb); have n_HRr := Aside0.mk (Kd.R_below HRr.out hb); have n_HRo := Aside0.mk (Kd.R_below HRo.out hb); have n_BK := Aside0.mk (blk_below BK.out hb); clear HB BS HRr HRo BK; have HB := n_HB; clear n_HB; have BS := n_BS; clear n_BS; have HRr := n_HRr; clear n_HRr; have HRo := n_HRo; clear n_HRo; have BK := n_BK; clear n_BK; (try clear qBS0); have qBS0 : World.cell? _ ⟨g, 0, none⟩ = some (.slice Ar rs.length cr) := (blk_cell BS.out 0).trans rfl; (try clear zBS0); have zBS0 : World.frozen? _ ⟨g, 0, none⟩ = false := blk_frozen BS.out 0; (try clear qBS1); have qBS1 : World.cell? _ ⟨g, 1, none⟩ = some (.slice Ao os.length co) := (blk_cell BS.out 1).trans rfl; (try clear zBS1); have zBS1 : World.frozen? _ ⟨g, 1, none⟩ = false := blk_frozen BS.out 1; (try clear qBK0); have qBK0 : World.cell? _ ⟨gb, 0, none⟩ = some (.int .i64 0) := (blk_cell BK.out 0).trans rfl; (try clear zBK0); have zBK0 : World.frozen? _ ⟨gb, 0, none⟩ = false := blk_frozen BK.out 0; (try clear qBK1); have qBK1 : World.cell? _ ⟨gb, 1, none⟩ = some (.int .i64 0) := (blk_cell BK.out 1).trans rfl; (try clear zBK1); have zBK1 : World.frozen? _ ⟨gb, 1, none⟩ = false := blk_frozen BK.out 1; (try clear qBK2); have qBK2 : World.cell? _ ⟨gb, 2, none⟩ = some (.int .i64 0) := (blk_cell BK.out 2).trans rfl; (try clear zBK2); have zBK2 : World.frozen? _ ⟨gb, 2, none⟩ = false := blk_frozen BK.out 2; (try clear qBK3); have qBK3 : World.cell? _ ⟨gb, 3, none⟩ = some (.int .i64 0) := (blk_cell BK.out 3).trans rfl; (try clear zBK3); have zBK3 : World.frozen? _ ⟨gb, 3, none⟩ = false := blk_frozen BK.out 3; (try clear qBK4); have qBK4 : World.cell? _ ⟨gb, 4, none⟩ = some (.bool false) := (blk_cell BK.out 4).trans rfl; (try clear zBK4); have zBK4 : World.frozen? _ ⟨gb, 4, none⟩ = false := blk_frozen BK.out 4; clear hb))
    obtain ⟨ad, ea, h0, h1, h2, h3, h4⟩ := at_T33 (Kd.R_reads' HRo.out).2.2 (k : Int) (by omega) (by omega)
    subst ea
    simp only [Int.toNat_natCast] at h0 h1 h2 h3 h4
    have HX := Aside0.mk hrd; rw [HX.out] at h0 h1 h2 h3 h4
    clear hrd
    go_wp2
    refine bodyPost_ret (results_ct rfl _ _ gb 33 #[.int .i64 x.f0, .int .i64 x.f1, .int .i64 x.f2, .int .i64 x.f3, .bool x.f4] (0, 0) _ rfl (by refine blk_put (cs := #[.int .i64 x.f0, .int .i64 x.f1, .int .i64 x.f2, .int .i64 x.f3, .bool false]) ?_ 4 _ rfl; refine blk_put (cs := #[.int .i64 x.f0, .int .i64 x.f1, .int .i64 x.f2, .int .i64 0, .bool false]) ?_ 3 _ rfl; refine blk_put (cs := #[.int .i64 x.f0, .int .i64 x.f1, .int .i64 0, .int .i64 0, .bool false]) ?_ 2 _ rfl; refine blk_put (cs := #[.int .i64 x.f0, .int .i64 0, .int .i64 0, .int .i64 0, .bool false]) ?_ 1 _ rfl; refine blk_put (cs := #[.int .i64 0, .int .i64 0, .int .i64 0, .int .i64 0, .bool false]) ?_ 0 _ rfl; exact BK.out) Try.underlying33 rfl (by kernel_rfl)) rfl ?_
    exact ⟨by rfl, by repeat (first | exact HB.out | refine below_set ?_ GB.out)⟩
end Go.Proofs.Ytfiniikeoemleaa.R
