/- The walk of ReadsActs: true for every input. No condition but the row. Printed by wip/dev/gen12q.py. -/
import Derived.Test.YtfiniikeoemleaaDLaw
import Derived.Test.YtfiniikeoemleaaRAlive
import Derived.Deep.CutBlock
import Derived.Deep.CutRange
import Derived.BigQuiet
namespace Go.Proofs.Ytfiniikeoemleaa.R
open Go Go.RowKit Go.Proofs.YtfiniikeoemleaaW.PrintWords Go.Proofs.YtfiniikeoemleaaW.PrintLast Go.Proofs.YtfiniikeoemleaaW.PrintMore
attribute [local go_sem] max2_int min2_int max_two min_two max_three min_three max_four min_four
set_option linter.unusedVariables false
set_option linter.unusedSimpArgs false

theorem has30_callsE (base g : Nat) (rs : List S30) (os : List S33) (o : Int) (w : World) (h : IsR base w g rs os) (r : S30 × Bool) (hr : has30 rs o = r) :
    Calls Try.prog 18 #[.pointer (some ⟨g, 0, none⟩), .int .i64 o] w fun e w' => e = .returned (.tuple #[.agg #[.int .i64 r.1.f0, .int .i64 r.1.f1, .int .i64 r.1.f2], .bool r.2]) ∧ Below w.heap.size w w' := hr ▸ has30_calls base g rs os o w h
theorem has33_callsE (base g : Nat) (rs : List S30) (os : List S33) (o : Int) (w : World) (h : IsR base w g rs os) (r : S33 × Bool) (hr : has33 os o = r) :
    Calls Try.prog 19 #[.pointer (some ⟨g, 0, none⟩), .int .i64 o] w fun e w' => e = .returned (.tuple #[.agg #[.int .i64 r.1.f0, .int .i64 r.1.f1, .int .i64 r.1.f2, .int .i64 r.1.f3, .bool r.1.f4], .bool r.2]) ∧ Below w.heap.size w w' := hr ▸ has33_calls base g rs os o w h
set_option maxHeartbeats 8000000 in
set_option maxRecDepth 100000 in
theorem acts_calls (A0 : Option Addr) (c0 : Nat) (l0 : List S47) (a1 : Int) (w : World) (hr0 : Kd.C k47 w A0 l0.length l0) (hc0 : l0.length ≤ c0) :
    Calls Try.prog 4 #[.slice A0 l0.length c0, .int .i64 a1] w fun e w' => e = .returned (.bool true) ∧ Below w.heap.size w w' := by
  have hmax : l0.length ≤ 9223372036854775807 := Kd.C_max hr0
  have HR := Aside0.mk hr0
  have HB := Aside0.mk (Below.refl w.heap.size w)
  have hu30 := Try.underlying30
  have hu33 := Try.underlying33
  have hu43 := Try.underlying43
  have hu44 := Try.underlying44
  have hu45 := Try.underlying45
  have hu47 := Try.underlying47
  clear hr0 hc0
  by_cases hl : l0.length ≤ 100
  rotate_left
  · have hl1 : (100 : Int) < (l0.length : Int) := by omega
    go_enter Try.func4, Try.ntmps4
    go_wp2_with (first | (go_at_call 7; refine (alive_calls _).mono ?_; rintro e w1 ⟨rfl, hb⟩; have n2 := Aside0.mk (below_step HB.out hb); clear HB hb; have HB := n2; clear n2))
    go_ret
    exact ⟨rfl, HB.out⟩
  have hl1 : ¬ (100 : Int) < (l0.length : Int) := by omega
  have HL := Aside0.mk hl
  clear hl
  go_enter Try.func4, Try.ntmps4
  go_wp2_with (first | (go_at_call 7; refine (alive_calls _).mono ?_; rintro e w1 ⟨rfl, hb⟩; have n2 := Aside0.mk (below_step HB.out hb); clear HB hb; have HB := n2; clear n2) | (go_at_call 8; refine (new_calls _).mono ?_; rintro e w2 ⟨g, rfl, hs, hb⟩; have HS := Aside0.mk (hs.lower (below_size HB.out)); have n2 := Aside0.mk (below_step HB.out hb); clear HB hs hb; have HB := n2; clear n2) | ((with_reducible refine gate_dst (N := 26) rfl ?_); refine box_event ?hg (N := 26) ?hd (cs := #[.slice none 0 0, .slice none 0 0]) (t := 43) ?hr ?_; (case hd => rfl); (case hg => rfl); (case hr => first | (go_simp; done) | (go_simp; rfl)); intro gv hgx w3 hbox hb; have GV := Aside0.mk (show w.heap.size ≤ gv by rw [hgx]; exact below_size HB.out); clear hgx; have n_HS := Aside0.mk (HS.out.below hb); have n_HB := Aside0.mk (below_step HB.out hb); clear HS HB; have HS := n_HS; clear n_HS; have HB := n_HB; clear n_HB; have HV := Aside0.mk (show IsD w.heap.size w3 gv [] [] from ⟨_, _, hbox, GV.out, Kd.R_nil _ _ _ _ _, Kd.R_nil _ _ _ _ _⟩); clear GV hbox hb))
  clear hl1
  go_loopg [7, 8, 9, 10, 11, 12, 13, 14, 15, 16] l0.length (fun gg s7 _ _ _ _ _ _ _ _ _ wr => ∃ (i : Nat) (ds : List S44) (es : List S45), i ≤ l0.length ∧ l0.length - i ≤ gg ∧ s7 = .int .i64 i ∧ Aside0 (ds.length ≤ i ∧ es.length ≤ i ∧ OnceD ds) ∧ Aside0 (IsR w.heap.size wr g (ds.map c30) (es.map c33)) ∧ Aside0 (IsD w.heap.size wr gv ds es) ∧ Aside0 (Below w.heap.size w wr))
  case atStart => exact ⟨0, [], [], Nat.zero_le _, by omega, rfl, ⟨by simp, by simp, by simp [OnceD]⟩, HS, HV, HB⟩
  case round =>
    clear HS HV HB
    obtain ⟨i, ds, es, hil, hgg, rfl, HI, HS, HV, HB⟩ := hrel
    by_cases hlt : i < l0.length
    rotate_left
    · have hltz : ¬ (i : Int) < (l0.length : Int) := by omega
      clear hlt hil hgg
      go_wp2
      go_ret
      exact ⟨rfl, HB.out⟩
    · have hltz : (i : Int) < (l0.length : Int) := by omega
      have h0i : (0 : Int) ≤ (i : Int) := by omega
      have HLT := Aside0.mk hlt
      have HW := Aside0.mk (Below.refl wr.heap.size wr)
      obtain ⟨ad, ea, h0, h1, h2, h3, h4, h5, h6, h7, h8⟩ := at_T47 (Kd.C_below HR.out HB.out) (i : Int) (by omega) (by omega)
      subst ea
      generalize rd_T47 l0 (i : Int) = x at h0 h1 h2 h3 h4 h5 h6 h7 h8
      simp only [Int.toNat_natCast] at h0 h1 h2 h3 h4 h5 h6 h7 h8
      go_upto_region 13 with (first | ((with_reducible refine gate_dst (N := 8) rfl ?_); refine box_event ?hg (N := 8) ?hd (cs := #[.int .i64 0, .int .i64 0, .int .i64 0, .int .i64 0, .int .i64 0, .int .i64 0, .int .i64 0, .int .i64 0, .bool false]) (t := 47) ?hr ?_; (case hd => rfl); (case hg => rfl); (case hr => first | (go_simp; done) | (go_simp; rfl)); intro ga hgy w3 hbox hb; have GA := Aside0.mk ((by rw [hgy]; exact below_size HW.out : wr.heap.size ≤ ga)); clear hgy; have n_HW := Aside0.mk (below_step HW.out hb); have n_BK := Aside0.mk (hbox); clear HW; have HW := n_HW; clear n_HW; have BK := n_BK; clear n_BK; (try clear qBK0); have qBK0 : World.cell? _ ⟨ga, 0, none⟩ = some (.int .i64 0) := (blk_cell BK.out 0).trans rfl; (try clear zBK0); have zBK0 : World.frozen? _ ⟨ga, 0, none⟩ = false := blk_frozen BK.out 0; (try clear qBK1); have qBK1 : World.cell? _ ⟨ga, 1, none⟩ = some (.int .i64 0) := (blk_cell BK.out 1).trans rfl; (try clear zBK1); have zBK1 : World.frozen? _ ⟨ga, 1, none⟩ = false := blk_frozen BK.out 1; (try clear qBK2); have qBK2 : World.cell? _ ⟨ga, 2, none⟩ = some (.int .i64 0) := (blk_cell BK.out 2).trans rfl; (try clear zBK2); have zBK2 : World.frozen? _ ⟨ga, 2, none⟩ = false := blk_frozen BK.out 2; (try clear qBK3); have qBK3 : World.cell? _ ⟨ga, 3, none⟩ = some (.int .i64 0) := (blk_cell BK.out 3).trans rfl; (try clear zBK3); have zBK3 : World.frozen? _ ⟨ga, 3, none⟩ = false := blk_frozen BK.out 3; (try clear qBK4); have qBK4 : World.cell? _ ⟨ga, 4, none⟩ = some (.int .i64 0) := (blk_cell BK.out 4).trans rfl; (try clear zBK4); have zBK4 : World.frozen? _ ⟨ga, 4, none⟩ = false := blk_frozen BK.out 4; (try clear qBK5); have qBK5 : World.cell? _ ⟨ga, 5, none⟩ = some (.int .i64 0) := (blk_cell BK.out 5).trans rfl; (try clear zBK5); have zBK5 : World.frozen? _ ⟨ga, 5, none⟩ = false := blk_frozen BK.out 5; (try clear qBK6); have qBK6 : World.cell? _ ⟨ga, 6, none⟩ = some (.int .i64 0) := (blk_cell BK.out 6).trans rfl; (try clear zBK6); have zBK6 : World.frozen? _ ⟨ga, 6, none⟩ = false := blk_frozen BK.out 6; (try clear qBK7); have qBK7 : World.cell? _ ⟨ga, 7, none⟩ = some (.int .i64 0) := (blk_cell BK.out 7).trans rfl; (try clear zBK7); have zBK7 : World.frozen? _ ⟨ga, 7, none⟩ = false := blk_frozen BK.out 7; (try clear qBK8); have qBK8 : World.cell? _ ⟨ga, 8, none⟩ = some (.bool false) := (blk_cell BK.out 8).trans rfl; (try clear zBK8); have zBK8 : World.frozen? _ ⟨ga, 8, none⟩ = false := blk_frozen BK.out 8; clear hbox hb; (try clear hg)))
      have hb := (below_set (j := 8) (v := .bool x.f2.f4) (below_set (j := 7) (v := .int .i64 x.f2.f3) (below_set (j := 6) (v := .int .i64 x.f2.f2) (below_set (j := 5) (v := .int .i64 x.f2.f1) (below_set (j := 4) (v := .int .i64 x.f2.f0) (below_set (j := 3) (v := .int .i64 x.f1.f2) (below_set (j := 2) (v := .int .i64 x.f1.f1) (below_set (j := 1) (v := .int .i64 x.f1.f0) (below_set (j := 0) (v := .int .i64 x.f0) HW.out GA.out) GA.out) GA.out) GA.out) GA.out) GA.out) GA.out) GA.out) GA.out)
      have BV : Aside0 (((World.setCell (World.setCell (World.setCell (World.setCell (World.setCell (World.setCell (World.setCell (World.setCell (World.setCell w3 ⟨ga, 0, none⟩ (.int .i64 x.f0)) ⟨ga, 1, none⟩ (.int .i64 x.f1.f0)) ⟨ga, 2, none⟩ (.int .i64 x.f1.f1)) ⟨ga, 3, none⟩ (.int .i64 x.f1.f2)) ⟨ga, 4, none⟩ (.int .i64 x.f2.f0)) ⟨ga, 5, none⟩ (.int .i64 x.f2.f1)) ⟨ga, 6, none⟩ (.int .i64 x.f2.f2)) ⟨ga, 7, none⟩ (.int .i64 x.f2.f3)) ⟨ga, 8, none⟩ (.bool x.f2.f4))).heap[ga]? = some (.cells #[.int .i64 x.f0, .int .i64 x.f1.f0, .int .i64 x.f1.f1, .int .i64 x.f1.f2, .int .i64 x.f2.f0, .int .i64 x.f2.f1, .int .i64 x.f2.f2, .int .i64 x.f2.f3, .bool x.f2.f4] 47 (0, 0))) := ⟨by refine blk_put (cs := #[.int .i64 x.f0, .int .i64 x.f1.f0, .int .i64 x.f1.f1, .int .i64 x.f1.f2, .int .i64 x.f2.f0, .int .i64 x.f2.f1, .int .i64 x.f2.f2, .int .i64 x.f2.f3, .bool false]) ?_ 8 _ rfl; refine blk_put (cs := #[.int .i64 x.f0, .int .i64 x.f1.f0, .int .i64 x.f1.f1, .int .i64 x.f1.f2, .int .i64 x.f2.f0, .int .i64 x.f2.f1, .int .i64 x.f2.f2, .int .i64 0, .bool false]) ?_ 7 _ rfl; refine blk_put (cs := #[.int .i64 x.f0, .int .i64 x.f1.f0, .int .i64 x.f1.f1, .int .i64 x.f1.f2, .int .i64 x.f2.f0, .int .i64 x.f2.f1, .int .i64 0, .int .i64 0, .bool false]) ?_ 6 _ rfl; refine blk_put (cs := #[.int .i64 x.f0, .int .i64 x.f1.f0, .int .i64 x.f1.f1, .int .i64 x.f1.f2, .int .i64 x.f2.f0, .int .i64 0, .int .i64 0, .int .i64 0, .bool false]) ?_ 5 _ rfl; refine blk_put (cs := #[.int .i64 x.f0, .int .i64 x.f1.f0, .int .i64 x.f1.f1, .int .i64 x.f1.f2, .int .i64 0, .int .i64 0, .int .i64 0, .int .i64 0, .bool false]) ?_ 4 _ rfl; refine blk_put (cs := #[.int .i64 x.f0, .int .i64 x.f1.f0, .int .i64 x.f1.f1, .int .i64 0, .int .i64 0, .int .i64 0, .int .i64 0, .int .i64 0, .bool false]) ?_ 3 _ rfl; refine blk_put (cs := #[.int .i64 x.f0, .int .i64 x.f1.f0, .int .i64 0, .int .i64 0, .int .i64 0, .int .i64 0, .int .i64 0, .int .i64 0, .bool false]) ?_ 2 _ rfl; refine blk_put (cs := #[.int .i64 x.f0, .int .i64 0, .int .i64 0, .int .i64 0, .int .i64 0, .int .i64 0, .int .i64 0, .int .i64 0, .bool false]) ?_ 1 _ rfl; refine blk_put (cs := #[.int .i64 0, .int .i64 0, .int .i64 0, .int .i64 0, .int .i64 0, .int .i64 0, .int .i64 0, .int .i64 0, .bool false]) ?_ 0 _ rfl; exact BK.out⟩
      clear HW BK h0 h1 h2 h3 h4 h5 h6 h7 h8 qBK0 zBK0 qBK1 zBK1 qBK2 zBK2 qBK3 zBK3 qBK4 zBK4 qBK5 zBK5 qBK6 zBK6 qBK7 zBK7 qBK8 zBK8
      generalize (World.setCell (World.setCell (World.setCell (World.setCell (World.setCell (World.setCell (World.setCell (World.setCell (World.setCell w3 ⟨ga, 0, none⟩ (.int .i64 x.f0)) ⟨ga, 1, none⟩ (.int .i64 x.f1.f0)) ⟨ga, 2, none⟩ (.int .i64 x.f1.f1)) ⟨ga, 3, none⟩ (.int .i64 x.f1.f2)) ⟨ga, 4, none⟩ (.int .i64 x.f2.f0)) ⟨ga, 5, none⟩ (.int .i64 x.f2.f1)) ⟨ga, 6, none⟩ (.int .i64 x.f2.f2)) ⟨ga, 7, none⟩ (.int .i64 x.f2.f3)) ⟨ga, 8, none⟩ (.bool x.f2.f4)) = wv at hb BV ⊢
      have n_HS := Aside0.mk (HS.out.below hb); have n_HV := Aside0.mk (HV.out.below hb); have n_HB := Aside0.mk (below_step HB.out hb); clear HS HV HB; have HS := n_HS; clear n_HS; have HV := n_HV; clear n_HV; have HB := n_HB; clear n_HB
      have q0 : World.cell? wv ⟨ga, 0, none⟩ = some (.int .i64 x.f0) := (blk_cell BV.out 0).trans rfl; have q1 : World.cell? wv ⟨ga, 1, none⟩ = some (.int .i64 x.f1.f0) := (blk_cell BV.out 1).trans rfl; have q2 : World.cell? wv ⟨ga, 2, none⟩ = some (.int .i64 x.f1.f1) := (blk_cell BV.out 2).trans rfl; have q3 : World.cell? wv ⟨ga, 3, none⟩ = some (.int .i64 x.f1.f2) := (blk_cell BV.out 3).trans rfl; have q4 : World.cell? wv ⟨ga, 4, none⟩ = some (.int .i64 x.f2.f0) := (blk_cell BV.out 4).trans rfl; have q5 : World.cell? wv ⟨ga, 5, none⟩ = some (.int .i64 x.f2.f1) := (blk_cell BV.out 5).trans rfl; have q6 : World.cell? wv ⟨ga, 6, none⟩ = some (.int .i64 x.f2.f2) := (blk_cell BV.out 6).trans rfl; have q7 : World.cell? wv ⟨ga, 7, none⟩ = some (.int .i64 x.f2.f3) := (blk_cell BV.out 7).trans rfl; have q8 : World.cell? wv ⟨ga, 8, none⟩ = some (.bool x.f2.f4) := (blk_cell BV.out 8).trans rfl
      have HGG := Aside0.mk hgg
      have HLN := Aside0.mk (show ds.length ≤ 1000 ∧ es.length ≤ 1000 by have := HI.out; have := HLT.out; have := HL.out; omega)
      have HLM := Aside0.mk (show (ds.map c30).length ≤ 1000 ∧ (es.map c33).length ≤ 1000 by rw [List.length_map, List.length_map]; exact HLN.out)
      clear hb hgg hil hlt
      have MM := find44_cases ds x.f1.f0
      obtain ⟨m, hm⟩ : ∃ m : Int, find44 ds x.f1.f0 = m := ⟨_, rfl⟩
      have HM := Aside0.mk hm
      have hb9 : ∃ hb : Bool, decide ((0 : Int) ≤ m) = hb := ⟨_, rfl⟩
      obtain ⟨has, hhas⟩ := hb9
      have HH := Aside0.mk (show has = !(find44 ds x.f1.f0 == -1) by rcases MM with ⟨h1, _⟩ | ⟨k, _, h1, _, _⟩ <;> rw [← hhas, ← hm, h1] <;> simp <;> omega)
      clear hm MM
      go_upto_block 2 with (first | (go_at_call 14; refine (dhas44_calls _ gv ds es x.f1.f0 _ HV.out).mono ?_; rintro e w4 ⟨rfl, rfl⟩; rw [HM.out]))
      clear hhas
      go_cut [45] from 27 to 211 (fun _ wc => ∃ (ds' : List S44) (es' : List S45), Aside0 (ds'.length ≤ i + 1 ∧ es'.length ≤ i + 1 ∧ OnceD ds') ∧ Aside0 (IsR w.heap.size wc g (ds'.map c30) (es'.map c33)) ∧ Aside0 (IsD w.heap.size wc gv ds' es') ∧ Aside0 (Below w.heap.size w wc))
      case first =>
        cases b0 : (x.f0 == 0) with
        | true =>
          cases has with
          | true =>
            as_aux_lemma =>
              have FA : find30 (ds.map c30) (c30 x.f1).f0 ≠ -1 := by rw [show (c30 x.f1).f0 = x.f1.f0 from rfl, find_map30]; have := HH.out; intro e; simp [e] at this
              have FA := Aside0.mk FA
              have AD := Aside0.mk (show addD ds x.f1 = ds by have := FA.out; rw [show (c30 x.f1).f0 = x.f1.f0 from rfl, find_map30] at this; unfold addD; rw [if_neg this])
              go_wp2_with (first | (go_at_call 9; refine (add_allF _ g (ds.map c30) (es.map c33) (c30 x.f1) _ HS.out (below_size HB.out) HLM.out.1).mono ?_; rintro e w5 ⟨he, hs, hf, hb⟩; rw [if_neg FA.out] at he; subst he; rw [add_map] at hs; (try clear q0); (try clear q1); (try clear q2); (try clear q3); (try clear q4); (try clear q5); (try clear q6); (try clear q7); (try clear q8); have n_HS := Aside0.mk (hs); have n_HV := Aside0.mk (HV.out.fr hf (by decide) (by decide) (by decide)); have n_HB := Aside0.mk (HB.out.trans hb); have n_BV := Aside0.mk (hf.blk BV.out (by decide)); clear HS HV HB BV; have HS := n_HS; clear n_HS; have HV := n_HV; clear n_HV; have HB := n_HB; clear n_HB; have BV := n_BV; clear n_BV; clear hs hf hb))
              go_meet
              case rel => exact ⟨addD ds x.f1, es, ⟨by have := HI.out.1; have := addD_len ds x.f1; omega, by have := HI.out.2.1; omega, addD_once HI.out.2.2⟩, HS, ⟨AD.out.symm ▸ HV.out⟩, HB⟩
          | false =>
            as_aux_lemma =>
              have FA : find30 (ds.map c30) (c30 x.f1).f0 = -1 := by rw [show (c30 x.f1).f0 = x.f1.f0 from rfl, find_map30]; have := HH.out; simpa using this.symm
              have FA := Aside0.mk FA
              have AD := Aside0.mk (show addD ds x.f1 = ds ++ [x.f1] by have := FA.out; rw [show (c30 x.f1).f0 = x.f1.f0 from rfl, find_map30] at this; unfold addD; rw [if_pos this])
              go_upto_region 20 with (first | (go_at_call 9; refine (add_allF _ g (ds.map c30) (es.map c33) (c30 x.f1) _ HS.out (below_size HB.out) HLM.out.1).mono ?_; rintro e w5 ⟨he, hs, hf, hb⟩; rw [if_pos FA.out] at he; subst he; rw [add_map] at hs; (try clear q0); (try clear q1); (try clear q2); (try clear q3); (try clear q4); (try clear q5); (try clear q6); (try clear q7); (try clear q8); have n_HS := Aside0.mk (hs); have n_HV := Aside0.mk (HV.out.fr hf (by decide) (by decide) (by decide)); have n_HB := Aside0.mk (HB.out.trans hb); have n_BV := Aside0.mk (hf.blk BV.out (by decide)); clear HS HV HB BV; have HS := n_HS; clear n_HS; have HV := n_HV; clear n_HV; have HB := n_HB; clear n_HB; have BV := n_BV; clear n_BV; clear hs hf hb))
              obtain ⟨vr, vo, hg0, hge, hr, ho⟩ := HV.out
              obtain ⟨Ar, cr, er⟩ := Kd.R_slice hr
              obtain ⟨Ao, co, eo⟩ := Kd.R_slice ho
              subst er eo
              have BS := Aside0.mk hg0
              have HRr := Aside0.mk hr
              have HRo := Aside0.mk ho
              have GE := Aside0.mk hge
              clear hg0 hge hr ho HV
              obtain ⟨nl, hnl⟩ : ∃ l : List S44, l = ds ++ [x.f1] := ⟨_, rfl⟩
              have HNL := Aside0.mk hnl
              clear hnl
              have n_HB := Aside0.mk (below_drew1 HB.out); have n_BS := Aside0.mk (blk_drew BS.out); have n_HRr := Aside0.mk (Kd.R_drew HRr.out); have n_HRo := Aside0.mk (Kd.R_drew HRo.out); have n_HS := Aside0.mk (IsR.below HS.out (below_drew (Below.refl _ _))); have n_BV := Aside0.mk (blk_drew BV.out); clear HB BS HRr HRo HS BV; have HB := n_HB; clear n_HB; have BS := n_BS; clear n_BS; have HRr := n_HRr; clear n_HRr; have HRo := n_HRo; clear n_HRo; have HS := n_HS; clear n_HS; have BV := n_BV; clear n_BV
              refine start_ (n := 12) (S := fun w' => Below w5.drew.heap.size w5.drew w') (ds := [8, 11]) #[false, false, false, false, false, false, false, false, false, false, false, false] (by kernel_rfl) rfl rfl (Below.refl _ _) (fun hHeld => ?_)
              generalize w5.drew = wS at HB BS HRr HRo HS BV hHeld ⊢
              refine pure_ (i := 0) (N := (some 74)) (v := ?_) (a' := ?_) #[true, false, false, false, false, false, false, false, false, false, false, false] rfl rfl (by kernel_rfl) (fun _ _ _ h => h) (Or.inl ⟨by rfl, ?_⟩) ?_ ?_
              rotate_left
              · intro w'
                go_simp
                with_reducible rfl
              rotate_left
              · (try simp only [Act.put, List.setIfInBounds_toArray, List.set_cons_zero, List.set_cons_succ, i64_w, i32_w])
                rfl
              refine pure_ (i := 1) (N := (some 75)) (v := ?_) (a' := ?_) #[true, true, false, false, false, false, false, false, false, false, false, false] rfl rfl (by kernel_rfl) (fun _ _ _ h => h) (Or.inl ⟨by rfl, ?_⟩) ?_ ?_
              rotate_left
              · intro w'
                go_simp
                with_reducible rfl
              rotate_left
              · (try simp only [Act.put, List.setIfInBounds_toArray, List.set_cons_zero, List.set_cons_succ, i64_w, i32_w])
                rfl
              refine pure_ (i := 2) (N := (some 76)) (v := ?_) (a' := ?_) #[true, true, true, false, false, false, false, false, false, false, false, false] rfl rfl (by kernel_rfl) (fun _ _ _ h => h) (Or.inl ⟨by rfl, ?_⟩) ?_ ?_
              rotate_left
              · intro w'
                go_simp
                with_reducible rfl
              rotate_left
              · (try simp only [Act.put, List.setIfInBounds_toArray, List.set_cons_zero, List.set_cons_succ, i64_w, i32_w])
                rfl
              refine pure_ (i := 3) (N := (some 77)) (v := ?_) (a' := ?_) #[true, true, true, true, false, false, false, false, false, false, false, false] rfl rfl (by kernel_rfl) (fun _ _ _ h => h) (Or.inl ⟨by rfl, ?_⟩) ?_ ?_
              rotate_left
              · intro w'
                go_simp
                with_reducible rfl
              rotate_left
              · (try simp only [Act.put, List.setIfInBounds_toArray, List.set_cons_zero, List.set_cons_succ, i64_w, i32_w])
                rfl
              refine take_ (i := 4) (N := some 78) (v := ?_) (a' := ?_) #[true, true, true, true, true, false, false, false, false, false, false, false] rfl rfl (by kernel_rfl) (fun _ _ _ h => h) (Or.inl ⟨by rfl, ?_⟩) hHeld ?_ ?_
              rotate_left
              · intro w' s0
                have q0 : World.cell? w' ⟨gv, 0, none⟩ = some (.slice Ar ds.length cr) := (blk_cell (blk_below BS.out s0) 0).trans rfl
                have q1 : World.cell? w' ⟨gv, 1, none⟩ = some (.slice Ao es.length co) := (blk_cell (blk_below BS.out s0) 1).trans rfl
                go_simp
                with_reducible rfl
              rotate_left
              · (try simp only [Act.put, List.setIfInBounds_toArray, List.set_cons_zero, List.set_cons_succ, i64_w, i32_w])
                rfl
              refine pure_ (i := 5) (N := (some 79)) (v := ?_) (a' := ?_) #[true, true, true, true, true, true, false, false, false, false, false, false] rfl rfl (by kernel_rfl) (fun _ _ _ h => h) (Or.inl ⟨by rfl, ?_⟩) ?_ ?_
              rotate_left
              · intro w'
                go_simp
                with_reducible rfl
              rotate_left
              · (try simp only [Act.put, List.setIfInBounds_toArray, List.set_cons_zero, List.set_cons_succ, i64_w, i32_w])
                rfl
              refine take_ (i := 6) (N := some 80) (v := ?_) (a' := ?_) #[true, true, true, true, true, true, true, false, false, false, false, false] rfl rfl (by kernel_rfl) (fun _ _ _ h => h) (Or.inl ⟨by rfl, ?_⟩) hHeld ?_ ?_
              rotate_left
              · intro w' s0
                have q0 : World.cell? w' ⟨ga, 0, none⟩ = some (.int .i64 x.f0) := (blk_cell (blk_below BV.out s0) 0).trans rfl
                have q1 : World.cell? w' ⟨ga, 1, none⟩ = some (.int .i64 x.f1.f0) := (blk_cell (blk_below BV.out s0) 1).trans rfl
                have q2 : World.cell? w' ⟨ga, 2, none⟩ = some (.int .i64 x.f1.f1) := (blk_cell (blk_below BV.out s0) 2).trans rfl
                have q3 : World.cell? w' ⟨ga, 3, none⟩ = some (.int .i64 x.f1.f2) := (blk_cell (blk_below BV.out s0) 3).trans rfl
                have q4 : World.cell? w' ⟨ga, 4, none⟩ = some (.int .i64 x.f2.f0) := (blk_cell (blk_below BV.out s0) 4).trans rfl
                have q5 : World.cell? w' ⟨ga, 5, none⟩ = some (.int .i64 x.f2.f1) := (blk_cell (blk_below BV.out s0) 5).trans rfl
                have q6 : World.cell? w' ⟨ga, 6, none⟩ = some (.int .i64 x.f2.f2) := (blk_cell (blk_below BV.out s0) 6).trans rfl
                have q7 : World.cell? w' ⟨ga, 7, none⟩ = some (.int .i64 x.f2.f3) := (blk_cell (blk_below BV.out s0) 7).trans rfl
                have q8 : World.cell? w' ⟨ga, 8, none⟩ = some (.bool x.f2.f4) := (blk_cell (blk_below BV.out s0) 8).trans rfl
                go_simp
                with_reducible rfl
              rotate_left
              · (try simp only [Act.put, List.setIfInBounds_toArray, List.set_cons_zero, List.set_cons_succ, i64_w, i32_w])
                rfl
              refine one_ (i := 7) (N := (some 81)) #[true, true, true, true, true, true, true, true, false, false, false, false] rfl rfl (by kernel_rfl) (by decide) (fun K hK => ?_)
              refine value_ (w1 := World.alloc wS (.cells #[.int .i64 x.f1.f0, .int .i64 x.f1.f1, .int .i64 x.f1.f2] 44)) (v := .slice (some ⟨wS.heap.size, 0, none⟩) 1 1) (by rfl) rfl ?_ ?_
              · go_simp
              have hh := below_alloc hHeld (Obj.cells #[.int .i64 x.f1.f0, .int .i64 x.f1.f1, .int .i64 x.f1.f2] 44); clear hHeld; have hHeld := hh; clear hh
              refine hK.out _ _ hHeld (fun _ => ?_)
              clear hK K
              refine norm_ (a' := ?_) ?_ ?_
              rotate_left
              · show Act.put _ (some 81) _ = _
                (try simp only [Act.put, List.setIfInBounds_toArray, List.set_cons_zero, List.set_cons_succ, i64_w, i32_w])
                rfl
              refine last_ (i := 8) (N := (some 82)) #[true, true, true, true, true, true, true, true, true, false, false, false] rfl rfl (by kernel_rfl) (by decide) (fun K hK => ?_)
              refine Kd.R_append_step k44 (w0 := w) (W := wS) w.heap.size (by rfl) (.tmp 78) (.tmp 81) 40 44 (.agg #[.int .i64 0, .int .i64 0, .int .i64 0]) 24 rfl Try.underlying40 (by kernel_rfl) rfl (by decide) (by omega) (.slice Ar ds.length cr) ds x.f1 [.int .i64 x.f1.f0, .int .i64 x.f1.f1, .int .i64 x.f1.f2] (fun _ => True) (fun _ => False) rfl rfl (k44_mkM _ _ _ x.f1) (fun _ h => h.elim) (fun _ _ => trivial) HRr.out HB.out (below_size HB.out) (by have := HLN.out.1; omega) ?_
              intro v1 w6 ho hb hg hat
              rw [← HNL.out] at ho
              obtain ⟨A1, c1, ee⟩ := Kd.R_slice ho
              subst ee
              have HFR := Aside0.mk ((Fr.refl _ _).grown hg (fun k hk => by obtain ⟨cs, hcs⟩ := Kd.R_typed HRr.out k hk; exact ⟨cs, 44, _, hcs, by decide⟩) : Fr [43, 44] wS w6)
              have n1 := Aside0.mk (blk_grown BS.out hg (Kd.R_ne HRr.out BS.out (by decide)))
              have n2 := Aside0.mk (Kd.R_over' HRo.out (Kd.R_typed HRr.out) (by decide) hg)
              have n3 := Aside0.mk ho; have n4 := Aside0.mk hb
              clear BS HRr HRo HB; have BS := n1; have HRo := n2; have HRr := n3; have HBB := n4; clear n1 n2 n3 n4 ho hb hg hat
              refine hK.out _ _ ?_
              clear hK K
              refine norm_ (a' := ?_) ?_ ?_
              rotate_left
              · show Act.put _ (some 82) _ = _
                (try simp only [Act.put, List.setIfInBounds_toArray, List.set_cons_zero, List.set_cons_succ, i64_w, i32_w])
                rfl
              refine pure_ (i := 9) (N := (some 83)) (v := ?_) (a' := ?_) #[true, true, true, true, true, true, true, true, true, true, false, false] rfl rfl (by kernel_rfl) (fun _ _ _ h => h) (Or.inl ⟨by rfl, ?_⟩) ?_ ?_
              rotate_left
              · intro w'
                go_simp
                with_reducible rfl
              rotate_left
              · (try simp only [Act.put, List.setIfInBounds_toArray, List.set_cons_zero, List.set_cons_succ, i64_w, i32_w])
                rfl
              refine pure_ (i := 10) (N := (some 84)) (v := ?_) (a' := ?_) #[true, true, true, true, true, true, true, true, true, true, true, false] rfl rfl (by kernel_rfl) (fun _ _ _ h => h) (Or.inl ⟨by rfl, ?_⟩) ?_ ?_
              rotate_left
              · intro w'
                go_simp
                with_reducible rfl
              rotate_left
              · (try simp only [Act.put, List.setIfInBounds_toArray, List.set_cons_zero, List.set_cons_succ, i64_w, i32_w])
                rfl
              refine last_ (i := 11) (N := none) #[true, true, true, true, true, true, true, true, true, true, true, true] rfl rfl (by kernel_rfl) (by decide) (fun K hK => ?_)
              refine skip_ (w1 := w6.setCell ⟨gv, 0, none⟩ (.slice A1 nl.length c1)) (by rfl) rfl ?_ ?_
              · have q0 : World.cell? w6 ⟨gv, 0, none⟩ = some (.slice Ar ds.length cr) := (blk_cell (BS.out) 0).trans rfl; have q1 : World.cell? w6 ⟨gv, 1, none⟩ = some (.slice Ao es.length co) := (blk_cell (BS.out) 1).trans rfl; have hfz : World.frozen? w6 ⟨gv, 0, none⟩ = false := blk_frozen BS.out 0; go_simp
              refine hK.out _ _ ?_
              clear hK K
              refine done_ (by kernel_rfl) ?_
              have hs : Fr [43] w6 (w6.setCell ⟨gv, 0, none⟩ (.slice A1 nl.length c1)) := (Fr.refl _ _).set BS.out (by decide) _
              have HV := Aside0.mk (show IsD w.heap.size (w6.setCell ⟨gv, 0, none⟩ (.slice A1 nl.length c1)) gv (addD ds x.f1) es from AD.out.symm ▸ HNL.out ▸ ⟨_, _, blk_put BS.out 0 _ rfl, GE.out, R_fr rfl HRr.out hs (by decide), R_fr rfl HRo.out hs (by decide)⟩)
              have n1 := Aside0.mk ((HS.out.fr HFR.out (by decide) (by decide) (by decide)).fr hs (by decide) (by decide) (by decide))
              have HB := Aside0.mk (below_set (j := 0) (v := .slice A1 nl.length c1) HBB.out GE.out)
              clear HS HBB HFR BS HRr HRo hs hHeld
              have HS := n1
              clear n1
              generalize World.setCell w6 ⟨gv, 0, none⟩ (.slice A1 nl.length c1) = w7 at HS HV HB ⊢
              go_wp2
              go_meet
              case rel => exact ⟨addD ds x.f1, es, ⟨by have := HI.out.1; have := addD_len ds x.f1; omega, by have := HI.out.2.1; omega, addD_once HI.out.2.2⟩, HS, HV, HB⟩
        | false =>
          cases b1 : (x.f0 == 1) with
          | true =>
            as_aux_lemma =>
              have DR := Aside0.mk (show (if find30 (ds.map c30) x.f1.f0 = -1 then false else true) = has by rw [find_map30, HH.out]; by_cases e : find44 ds x.f1.f0 = -1 <;> simp [e])
              go_wp2_with (first | (go_at_call 11; refine (drop_allF _ g (ds.map c30) (es.map c33) x.f1.f0 _ HS.out (below_size HB.out) HLM.out.1).mono ?_; rintro e w5 ⟨he, hs, hf, hb⟩; rw [DR.out] at he; subst he; rw [drop_map ds _ HI.out.2.2] at hs; (try clear q0); (try clear q1); (try clear q2); (try clear q3); (try clear q4); (try clear q5); (try clear q6); (try clear q7); (try clear q8); have n_HS := Aside0.mk (hs); have n_HV := Aside0.mk (HV.out.fr hf (by decide) (by decide) (by decide)); have n_HB := Aside0.mk (HB.out.trans hb); have n_BV := Aside0.mk (hf.blk BV.out (by decide)); clear HS HV HB BV; have HS := n_HS; clear n_HS; have HV := n_HV; clear n_HV; have HB := n_HB; clear n_HB; have BV := n_BV; clear n_BV; clear hs hf hb; have q0 : World.cell? w5 ⟨ga, 0, none⟩ = some (.int .i64 x.f0) := (blk_cell BV.out 0).trans rfl; have q1 : World.cell? w5 ⟨ga, 1, none⟩ = some (.int .i64 x.f1.f0) := (blk_cell BV.out 1).trans rfl; have q2 : World.cell? w5 ⟨ga, 2, none⟩ = some (.int .i64 x.f1.f1) := (blk_cell BV.out 2).trans rfl; have q3 : World.cell? w5 ⟨ga, 3, none⟩ = some (.int .i64 x.f1.f2) := (blk_cell BV.out 3).trans rfl; have q4 : World.cell? w5 ⟨ga, 4, none⟩ = some (.int .i64 x.f2.f0) := (blk_cell BV.out 4).trans rfl; have q5 : World.cell? w5 ⟨ga, 5, none⟩ = some (.int .i64 x.f2.f1) := (blk_cell BV.out 5).trans rfl; have q6 : World.cell? w5 ⟨ga, 6, none⟩ = some (.int .i64 x.f2.f2) := (blk_cell BV.out 6).trans rfl; have q7 : World.cell? w5 ⟨ga, 7, none⟩ = some (.int .i64 x.f2.f3) := (blk_cell BV.out 7).trans rfl; have q8 : World.cell? w5 ⟨ga, 8, none⟩ = some (.bool x.f2.f4) := (blk_cell BV.out 8).trans rfl) | (go_at_call 15; refine (ddrop_calls _ gv ds es x.f1.f0 _ HV.out (below_size HB.out) HLN.out.1).mono ?_; rintro e w6 ⟨he, hs, hf, hb⟩; subst he; (try clear q0); (try clear q1); (try clear q2); (try clear q3); (try clear q4); (try clear q5); (try clear q6); (try clear q7); (try clear q8); have n_HS := Aside0.mk (HS.out.fr hf (by decide) (by decide) (by decide)); have n_HV := Aside0.mk (hs); have n_HB := Aside0.mk (HB.out.trans hb); have n_BV := Aside0.mk (hf.blk BV.out (by decide)); clear HS HV HB BV; have HS := n_HS; clear n_HS; have HV := n_HV; clear n_HV; have HB := n_HB; clear n_HB; have BV := n_BV; clear n_BV; clear hs hf hb))
              go_meet
              case rel => exact ⟨dropD ds x.f1.f0, es, ⟨by have := HI.out.1; have := dropD_len ds x.f1.f0; omega, by have := HI.out.2.1; omega, dropD_once HI.out.2.2⟩, HS, HV, HB⟩
          | false =>
            cases b2 : (x.f0 == 2) with
            | true =>
              as_aux_lemma =>
                go_wp2_with (first | (go_at_call 16; refine (quarrellaw12_own.calls _ _ _ _ _ x.f2.f0 x.f2.f1 x.f2.f2 x.f2.f3 x.f2.f4 _ rfl).mono ?_; rintro e w5 ⟨rfl, hb⟩; (try clear q0); (try clear q1); (try clear q2); (try clear q3); (try clear q4); (try clear q5); (try clear q6); (try clear q7); (try clear q8); have n_HS := Aside0.mk (HS.out.below hb); have n_HV := Aside0.mk (HV.out.below hb); have n_HB := Aside0.mk (below_step HB.out hb); have n_BV := Aside0.mk (blk_below BV.out hb); clear HS HV HB BV; have HS := n_HS; clear n_HS; have HV := n_HV; clear n_HV; have HB := n_HB; clear n_HB; have BV := n_BV; clear n_BV; clear hb) | (go_at_call 10; refine (put_allF _ g (ds.map c30) (es.map c33) (c33 x.f2) _ HS.out (below_size HB.out) HLM.out.2).mono ?_; rintro e w6 ⟨rfl, hs, hf, hb⟩; rw [put_map] at hs; have n_HS := Aside0.mk (hs); have n_HV := Aside0.mk (HV.out.fr hf (by decide) (by decide) (by decide)); have n_HB := Aside0.mk (HB.out.trans hb); have n_BV := Aside0.mk (hf.blk BV.out (by decide)); clear HS HV HB BV; have HS := n_HS; clear n_HS; have HV := n_HV; clear n_HV; have HB := n_HB; clear n_HB; have BV := n_BV; clear n_BV; clear hs hf hb; have q0 : World.cell? w6 ⟨ga, 0, none⟩ = some (.int .i64 x.f0) := (blk_cell BV.out 0).trans rfl; have q1 : World.cell? w6 ⟨ga, 1, none⟩ = some (.int .i64 x.f1.f0) := (blk_cell BV.out 1).trans rfl; have q2 : World.cell? w6 ⟨ga, 2, none⟩ = some (.int .i64 x.f1.f1) := (blk_cell BV.out 2).trans rfl; have q3 : World.cell? w6 ⟨ga, 3, none⟩ = some (.int .i64 x.f1.f2) := (blk_cell BV.out 3).trans rfl; have q4 : World.cell? w6 ⟨ga, 4, none⟩ = some (.int .i64 x.f2.f0) := (blk_cell BV.out 4).trans rfl; have q5 : World.cell? w6 ⟨ga, 5, none⟩ = some (.int .i64 x.f2.f1) := (blk_cell BV.out 5).trans rfl; have q6 : World.cell? w6 ⟨ga, 6, none⟩ = some (.int .i64 x.f2.f2) := (blk_cell BV.out 6).trans rfl; have q7 : World.cell? w6 ⟨ga, 7, none⟩ = some (.int .i64 x.f2.f3) := (blk_cell BV.out 7).trans rfl; have q8 : World.cell? w6 ⟨ga, 8, none⟩ = some (.bool x.f2.f4) := (blk_cell BV.out 8).trans rfl) | (go_at_call 17; refine (dput_all _ gv ds es x.f2 _ HV.out (below_size HB.out) HLN.out.2).mono ?_; rintro e w7 ⟨rfl, hs, hf, hb⟩; (try clear q0); (try clear q1); (try clear q2); (try clear q3); (try clear q4); (try clear q5); (try clear q6); (try clear q7); (try clear q8); have n_HS := Aside0.mk (HS.out.fr hf (by decide) (by decide) (by decide)); have n_HV := Aside0.mk (hs); have n_HB := Aside0.mk (HB.out.trans hb); have n_BV := Aside0.mk (hf.blk BV.out (by decide)); clear HS HV HB BV; have HS := n_HS; clear n_HS; have HV := n_HV; clear n_HV; have HB := n_HB; clear n_HB; have BV := n_BV; clear n_BV; clear hs hf hb))
                go_meet
                case rel => exact ⟨ds, putD es x.f2, ⟨by have := HI.out.1; omega, by have := HI.out.2.1; have := putD_len es x.f2; omega, HI.out.2.2⟩, HS, HV, HB⟩
            | false =>
              go_wp2
              go_meet
              case rel => exact ⟨ds, es, ⟨by have := HI.out.1; omega, by have := HI.out.2.1; omega, HI.out.2.2⟩, HS, HV, HB⟩
      case rest =>
        clear HS HV HB BV HM HH HI HLN HLM q0 q1 q2 q3 q4 q5 q6 q7 q8
        obtain ⟨ds2, es2, HI2, HS, HV, HB⟩ := hcut
        have HL2 := Aside0.mk (show ds2.length ≤ 1000 ∧ es2.length ≤ 1000 by have := HI2.out; have := HLT.out; have := HL.out; omega)
        have HL3 := Aside0.mk (show (ds2.map c30).length ≤ 1000 ∧ (es2.map c33).length ≤ 1000 by rw [List.length_map, List.length_map]; exact HL2.out)
        obtain ⟨⟨rv, rb⟩, hrv⟩ : ∃ p, has30 (ds2.map c30) a1 = p := ⟨_, rfl⟩
        obtain ⟨⟨ov, ob⟩, hov⟩ : ∃ p, has33 (es2.map c33) a1 = p := ⟨_, rfl⟩
        obtain ⟨km, hkm⟩ : ∃ m, find44 ds2 a1 = m := ⟨_, rfl⟩
        obtain ⟨nm, hnm⟩ : ∃ m, find45 es2 a1 = m := ⟨_, rfl⟩
        have RV := Aside0.mk hrv
        have OV := Aside0.mk hov
        have KM := Aside0.mk hkm
        have NM := Aside0.mk hnm
        clear hrv hov hkm hnm
        go_upto_region 29 with (first | ((with_reducible refine gate_callee (f := 18) rfl ?_); refine goesL_ (some 113) rfl rfl Try.func18 (by kernel_rfl) rfl #[.pointer (some ⟨g, 0, none⟩), .int .i64 a1] rfl (by (try simp only [List.map_toArray, List.map_cons, List.map_nil]); first | done | rfl | (simp only [List.length_drop, List.length_take]; rfl)) ?_; (refine (has30_callsE _ g (ds2.map c30) (es2.map c33) a1 _ HS.out (rv, rb) RV.out).mono ?_); rintro e w8 ⟨rfl, hb⟩; refine ⟨_, rfl, ?_⟩; have n_HS := Aside0.mk (HS.out.below hb); have n_HV := Aside0.mk (HV.out.below hb); have n_HB := Aside0.mk (below_step HB.out hb); clear HS HV HB; have HS := n_HS; clear n_HS; have HV := n_HV; clear n_HV; have HB := n_HB; clear n_HB; clear hb) | ((with_reducible refine gate_dst (N := 11) rfl ?_); refine box_event ?hg (N := 11) ?hd (cs := #[.int .i64 0, .int .i64 0, .int .i64 0]) (t := 30) ?hr ?_; (case hd => rfl); (case hg => rfl); (case hr => first | (go_simp; done) | (go_simp; rfl)); intro gr hgx w9 hbox hb; have GX := Aside0.mk (Nat.le_of_eq hgx.symm : w8.heap.size ≤ gr); have HX := Aside0.mk hb; have BK := Aside0.mk hbox; clear hgx hbox hb; have qK0 : World.cell? _ ⟨gr, 0, none⟩ = some (.int .i64 0) := (blk_cell BK.out 0).trans rfl; have zK0 : World.frozen? _ ⟨gr, 0, none⟩ = false := blk_frozen BK.out 0; have qK1 : World.cell? _ ⟨gr, 1, none⟩ = some (.int .i64 0) := (blk_cell BK.out 1).trans rfl; have zK1 : World.frozen? _ ⟨gr, 1, none⟩ = false := blk_frozen BK.out 1; have qK2 : World.cell? _ ⟨gr, 2, none⟩ = some (.int .i64 0) := (blk_cell BK.out 2).trans rfl; have zK2 : World.frozen? _ ⟨gr, 2, none⟩ = false := blk_frozen BK.out 2))
        have hb := (below_set (j := 2) (v := .int .i64 rv.f2) (below_set (j := 1) (v := .int .i64 rv.f1) (below_set (j := 0) (v := .int .i64 rv.f0) HX.out GX.out) GX.out) GX.out)
        have BR : Aside0 (((World.setCell (World.setCell (World.setCell w9 ⟨gr, 0, none⟩ (.int .i64 rv.f0)) ⟨gr, 1, none⟩ (.int .i64 rv.f1)) ⟨gr, 2, none⟩ (.int .i64 rv.f2))).heap[gr]? = some (.cells #[.int .i64 rv.f0, .int .i64 rv.f1, .int .i64 rv.f2] 30 (0, 0))) := ⟨by refine blk_put (cs := #[.int .i64 rv.f0, .int .i64 rv.f1, .int .i64 0]) ?_ 2 _ rfl; refine blk_put (cs := #[.int .i64 rv.f0, .int .i64 0, .int .i64 0]) ?_ 1 _ rfl; refine blk_put (cs := #[.int .i64 0, .int .i64 0, .int .i64 0]) ?_ 0 _ rfl; exact BK.out⟩
        clear HX BK GX qK0 zK0 qK1 zK1 qK2 zK2
        generalize (World.setCell (World.setCell (World.setCell w9 ⟨gr, 0, none⟩ (.int .i64 rv.f0)) ⟨gr, 1, none⟩ (.int .i64 rv.f1)) ⟨gr, 2, none⟩ (.int .i64 rv.f2)) = wA at hb BR ⊢
        have n_HS := Aside0.mk (HS.out.below hb); have n_HV := Aside0.mk (HV.out.below hb); have n_HB := Aside0.mk (below_step HB.out hb); clear HS HV HB; have HS := n_HS; clear n_HS; have HV := n_HV; clear n_HV; have HB := n_HB; clear n_HB
        clear hb
        go_upto_region 30 with (first | ((with_reducible refine gate_callee (f := 19) rfl ?_); refine goesL_ (some 119) rfl rfl Try.func19 (by kernel_rfl) rfl #[.pointer (some ⟨g, 0, none⟩), .int .i64 a1] rfl (by (try simp only [List.map_toArray, List.map_cons, List.map_nil]); first | done | rfl | (simp only [List.length_drop, List.length_take]; rfl)) ?_; (refine (has33_callsE _ g (ds2.map c30) (es2.map c33) a1 _ HS.out (ov, ob) OV.out).mono ?_); rintro e w10 ⟨rfl, hb⟩; refine ⟨_, rfl, ?_⟩; have n_HS := Aside0.mk (HS.out.below hb); have n_HV := Aside0.mk (HV.out.below hb); have n_HB := Aside0.mk (below_step HB.out hb); have n_BR := Aside0.mk (blk_below BR.out hb); clear HS HV HB BR; have HS := n_HS; clear n_HS; have HV := n_HV; clear n_HV; have HB := n_HB; clear n_HB; have BR := n_BR; clear n_BR; clear hb) | ((with_reducible refine gate_dst (N := 13) rfl ?_); refine box_event ?hg (N := 13) ?hd (cs := #[.int .i64 0, .int .i64 0, .int .i64 0, .int .i64 0, .bool false]) (t := 33) ?hr ?_; (case hd => rfl); (case hg => rfl); (case hr => first | (go_simp; done) | (go_simp; rfl)); intro go hgx w11 hbox hb; have GX := Aside0.mk (Nat.le_of_eq hgx.symm : w10.heap.size ≤ go); have HX := Aside0.mk hb; have BK := Aside0.mk hbox; clear hgx hbox hb; have qK0 : World.cell? _ ⟨go, 0, none⟩ = some (.int .i64 0) := (blk_cell BK.out 0).trans rfl; have zK0 : World.frozen? _ ⟨go, 0, none⟩ = false := blk_frozen BK.out 0; have qK1 : World.cell? _ ⟨go, 1, none⟩ = some (.int .i64 0) := (blk_cell BK.out 1).trans rfl; have zK1 : World.frozen? _ ⟨go, 1, none⟩ = false := blk_frozen BK.out 1; have qK2 : World.cell? _ ⟨go, 2, none⟩ = some (.int .i64 0) := (blk_cell BK.out 2).trans rfl; have zK2 : World.frozen? _ ⟨go, 2, none⟩ = false := blk_frozen BK.out 2; have qK3 : World.cell? _ ⟨go, 3, none⟩ = some (.int .i64 0) := (blk_cell BK.out 3).trans rfl; have zK3 : World.frozen? _ ⟨go, 3, none⟩ = false := blk_frozen BK.out 3; have qK4 : World.cell? _ ⟨go, 4, none⟩ = some (.bool false) := (blk_cell BK.out 4).trans rfl; have zK4 : World.frozen? _ ⟨go, 4, none⟩ = false := blk_frozen BK.out 4))
        have hb := (below_set (j := 4) (v := .bool ov.f4) (below_set (j := 3) (v := .int .i64 ov.f3) (below_set (j := 2) (v := .int .i64 ov.f2) (below_set (j := 1) (v := .int .i64 ov.f1) (below_set (j := 0) (v := .int .i64 ov.f0) HX.out GX.out) GX.out) GX.out) GX.out) GX.out)
        have BO : Aside0 (((World.setCell (World.setCell (World.setCell (World.setCell (World.setCell w11 ⟨go, 0, none⟩ (.int .i64 ov.f0)) ⟨go, 1, none⟩ (.int .i64 ov.f1)) ⟨go, 2, none⟩ (.int .i64 ov.f2)) ⟨go, 3, none⟩ (.int .i64 ov.f3)) ⟨go, 4, none⟩ (.bool ov.f4))).heap[go]? = some (.cells #[.int .i64 ov.f0, .int .i64 ov.f1, .int .i64 ov.f2, .int .i64 ov.f3, .bool ov.f4] 33 (0, 0))) := ⟨by refine blk_put (cs := #[.int .i64 ov.f0, .int .i64 ov.f1, .int .i64 ov.f2, .int .i64 ov.f3, .bool false]) ?_ 4 _ rfl; refine blk_put (cs := #[.int .i64 ov.f0, .int .i64 ov.f1, .int .i64 ov.f2, .int .i64 0, .bool false]) ?_ 3 _ rfl; refine blk_put (cs := #[.int .i64 ov.f0, .int .i64 ov.f1, .int .i64 0, .int .i64 0, .bool false]) ?_ 2 _ rfl; refine blk_put (cs := #[.int .i64 ov.f0, .int .i64 0, .int .i64 0, .int .i64 0, .bool false]) ?_ 1 _ rfl; refine blk_put (cs := #[.int .i64 0, .int .i64 0, .int .i64 0, .int .i64 0, .bool false]) ?_ 0 _ rfl; exact BK.out⟩
        clear HX BK GX qK0 zK0 qK1 zK1 qK2 zK2 qK3 zK3 qK4 zK4
        generalize (World.setCell (World.setCell (World.setCell (World.setCell (World.setCell w11 ⟨go, 0, none⟩ (.int .i64 ov.f0)) ⟨go, 1, none⟩ (.int .i64 ov.f1)) ⟨go, 2, none⟩ (.int .i64 ov.f2)) ⟨go, 3, none⟩ (.int .i64 ov.f3)) ⟨go, 4, none⟩ (.bool ov.f4)) = wB at hb BO ⊢
        have n_HS := Aside0.mk (HS.out.below hb); have n_HV := Aside0.mk (HV.out.below hb); have n_HB := Aside0.mk (below_step HB.out hb); have n_BR := Aside0.mk (blk_below BR.out hb); clear HS HV HB BR; have HS := n_HS; clear n_HS; have HV := n_HV; clear n_HV; have HB := n_HB; clear n_HB; have BR := n_BR; clear n_BR
        clear hb
        go_upto_region 31 with (first | (go_at_call 14; refine (dhas44_calls _ gv ds2 es2 a1 _ HV.out).mono ?_; rintro e w12 ⟨rfl, rfl⟩; rw [KM.out]) | (go_at_call 20; refine (dhas45_calls _ gv ds2 es2 a1 _ HV.out).mono ?_; rintro e w13 ⟨rfl, rfl⟩; rw [NM.out]))
        have r0 : World.cell? w13 ⟨gr, 0, none⟩ = some (.int .i64 rv.f0) := (blk_cell BR.out 0).trans rfl
        have r1 : World.cell? w13 ⟨gr, 1, none⟩ = some (.int .i64 rv.f1) := (blk_cell BR.out 1).trans rfl
        have r2 : World.cell? w13 ⟨gr, 2, none⟩ = some (.int .i64 rv.f2) := (blk_cell BR.out 2).trans rfl
        have o0 : World.cell? w13 ⟨go, 0, none⟩ = some (.int .i64 ov.f0) := (blk_cell BO.out 0).trans rfl
        have o1 : World.cell? w13 ⟨go, 1, none⟩ = some (.int .i64 ov.f1) := (blk_cell BO.out 1).trans rfl
        have o2 : World.cell? w13 ⟨go, 2, none⟩ = some (.int .i64 ov.f2) := (blk_cell BO.out 2).trans rfl
        have o3 : World.cell? w13 ⟨go, 3, none⟩ = some (.int .i64 ov.f3) := (blk_cell BO.out 3).trans rfl
        have o4 : World.cell? w13 ⟨go, 4, none⟩ = some (.bool ov.f4) := (blk_cell BO.out 4).trans rfl
        have CK := Aside0.mk (has_rv ds2 a1 rv rb km RV.out KM.out)
        have CN := Aside0.mk (has_ov es2 a1 ov ob nm OV.out NM.out)
        clear RV OV KM NM
        go_cut [155] from 128 to 155 (fun s wc => s = .bool false ∧ wc = w13)
        case first =>
          rcases CK.out with ⟨ek, eb, er⟩ | ⟨k, hk, ek, eb, er⟩ <;> rcases CN.out with ⟨fk, fb, fr⟩ | ⟨n, hn, fk, fb, fr⟩
          · subst ek; subst eb; subst er; subst fk; subst fb; subst fr
            have z0 : z30.f0 = 0 := rfl
            have z1 : z30.f1 = 0 := rfl
            have z2 : z30.f2 = 0 := rfl
            have y0 : z33.f0 = 0 := rfl
            have y1 : z33.f1 = 0 := rfl
            have y2 : z33.f2 = 0 := rfl
            have y3 : z33.f3 = 0 := rfl
            have y4 : z33.f4 = false := rfl
            clear CK CN
            go_wp2
            go_meet
            exact ⟨rfl, rfl⟩
          · subst ek; subst eb; subst er; subst fk; subst fb; subst fr
            have z0 : z30.f0 = 0 := rfl
            have z1 : z30.f1 = 0 := rfl
            have z2 : z30.f2 = 0 := rfl
            have h0n : (0 : Int) ≤ (n : Int) := by omega
            clear CK CN
            go_wp2
            go_meet
            exact ⟨rfl, rfl⟩
          · subst ek; subst eb; subst er; subst fk; subst fb; subst fr
            have h0k : (0 : Int) ≤ (k : Int) := by omega
            have y0 : z33.f0 = 0 := rfl
            have y1 : z33.f1 = 0 := rfl
            have y2 : z33.f2 = 0 := rfl
            have y3 : z33.f3 = 0 := rfl
            have y4 : z33.f4 = false := rfl
            clear CK CN
            go_wp2
            go_meet
            exact ⟨rfl, rfl⟩
          · subst ek; subst eb; subst er; subst fk; subst fb; subst fr
            have h0k : (0 : Int) ≤ (k : Int) := by omega
            have h0n : (0 : Int) ≤ (n : Int) := by omega
            clear CK CN
            go_wp2
            go_meet
            exact ⟨rfl, rfl⟩
        case rest =>
          obtain ⟨hs, hw⟩ := hcut
          subst hs
          subst hw
          clear r0 r1 r2 o0 o1 o2 o3 o4
          obtain ⟨vr, vo, hg0, hge, hr, ho⟩ := HV.out
          obtain ⟨Ar, cr, er⟩ := Kd.R_slice hr
          obtain ⟨Ao, co, eo⟩ := Kd.R_slice ho
          subst er eo
          have BS := Aside0.mk hg0
          have HRr := Aside0.mk hr
          have HRo := Aside0.mk ho
          have LCr := Aside0.mk (Kd.R_reads' hr).2.1
          have LCo := Aside0.mk (Kd.R_reads' ho).2.1
          clear hg0 hge hr ho
          go_upto_region 33 with (fail)
          go_cut [185] from 156 to 185 (fun s wd => s = .bool false ∧ Aside0 (Below wc.heap.size wc wd))
          case first =>
            rcases CK.out with ⟨ek, eb, er⟩ | ⟨k, hk, ek, eb, er⟩ <;> rcases CN.out with ⟨fk, fb, fr⟩ | ⟨n, hn, fk, fb, fr⟩
            · subst ek; subst eb; subst fk; subst fb; clear CK CN
              have ER := Aside0.mk er; clear er
              have HD := Aside0.mk (Below.refl wc.heap.size wc)
              clear fr
              as_aux_lemma =>
                have n_HB := Aside0.mk (below_drew1 HB.out); have n_HD := Aside0.mk (below_drew1 HD.out); have n_BS := Aside0.mk (blk_drew BS.out); have n_HRr := Aside0.mk (Kd.R_drew HRr.out); have n_HRo := Aside0.mk (Kd.R_drew HRo.out); have n_BR := Aside0.mk (blk_drew BR.out); have n_BO := Aside0.mk (blk_drew BO.out); clear HB HD BS HRr HRo BR BO; have HB := n_HB; clear n_HB; have HD := n_HD; clear n_HD; have BS := n_BS; clear n_BS; have HRr := n_HRr; clear n_HRr; have HRo := n_HRo; clear n_HRo; have BR := n_BR; clear n_BR; have BO := n_BO; clear n_BO
                refine start_ (n := 30) (S := fun w' => Below wc.drew.heap.size wc.drew w') (ds := []) #[false, false, false, false, false, false, false, false, false, false, false, false, false, false, false, false, false, false, false, false, false, false, false, false, false, false, false, false, false, false] (by kernel_rfl) rfl rfl (Below.refl _ _) (fun hHeld => ?_)
                generalize wc.drew = wS at HB HD BS HRr HRo BR BO hHeld ⊢
                have BS1 := BS
                have HRr1 := HRr
                have HRo1 := HRo
                have BR1 := BR
                have BO1 := BO
                clear BS HRo BR BO
                refine pure_ (i := 0) (N := (some 156)) (v := ?_) (a' := ?_) #[true, false, false, false, false, false, false, false, false, false, false, false, false, false, false, false, false, false, false, false, false, false, false, false, false, false, false, false, false, false] rfl rfl (by kernel_rfl) (fun _ _ _ h => h) (Or.inl ⟨by rfl, ?_⟩) ?_ ?_
                rotate_left
                · intro w'
                  go_simp
                  with_reducible rfl
                rotate_left
                · (try simp only [Act.put, List.setIfInBounds_toArray, List.set_cons_zero, List.set_cons_succ, i64_w, i32_w])
                  rfl
                refine pure_ (i := 1) (N := (some 157)) (v := ?_) (a' := ?_) #[true, true, false, false, false, false, false, false, false, false, false, false, false, false, false, false, false, false, false, false, false, false, false, false, false, false, false, false, false, false] rfl rfl (by kernel_rfl) (fun _ _ _ h => h) (Or.inl ⟨by rfl, ?_⟩) ?_ ?_
                rotate_left
                · intro w'
                  go_simp
                  with_reducible rfl
                rotate_left
                · (try simp only [Act.put, List.setIfInBounds_toArray, List.set_cons_zero, List.set_cons_succ, i64_w, i32_w])
                  rfl
                refine pure_ (i := 2) (N := some 158) (v := undef) #[true, true, true, false, false, false, false, false, false, false, false, false, false, false, false, false, false, false, false, false, false, false, false, false, false, false, false, false, false, false] rfl rfl (by kernel_rfl) (fun _ _ _ h => h) (Or.inr ⟨by rfl, rfl⟩) rfl ?_
                refine norm_ (a' := ?_) ?_ ?_
                rotate_left
                · show Act.put _ (some 158) _ = _
                  (try simp only [Act.put, List.setIfInBounds_toArray, List.set_cons_zero, List.set_cons_succ, i64_w, i32_w])
                  rfl
                refine pure_ (i := 3) (N := some 159) (v := undef) #[true, true, true, true, false, false, false, false, false, false, false, false, false, false, false, false, false, false, false, false, false, false, false, false, false, false, false, false, false, false] rfl rfl (by kernel_rfl) (fun _ _ _ h => h) (Or.inr ⟨by rfl, rfl⟩) rfl ?_
                refine norm_ (a' := ?_) ?_ ?_
                rotate_left
                · show Act.put _ (some 159) _ = _
                  (try simp only [Act.put, List.setIfInBounds_toArray, List.set_cons_zero, List.set_cons_succ, i64_w, i32_w])
                  rfl
                refine pure_ (i := 4) (N := some 160) (v := undef) #[true, true, true, true, true, false, false, false, false, false, false, false, false, false, false, false, false, false, false, false, false, false, false, false, false, false, false, false, false, false] rfl rfl (by kernel_rfl) (fun _ _ _ h => h) (Or.inr ⟨by rfl, rfl⟩) rfl ?_
                refine norm_ (a' := ?_) ?_ ?_
                rotate_left
                · show Act.put _ (some 160) _ = _
                  (try simp only [Act.put, List.setIfInBounds_toArray, List.set_cons_zero, List.set_cons_succ, i64_w, i32_w])
                  rfl
                refine pure_ (i := 5) (N := some 161) (v := undef) #[true, true, true, true, true, true, false, false, false, false, false, false, false, false, false, false, false, false, false, false, false, false, false, false, false, false, false, false, false, false] rfl rfl (by kernel_rfl) (fun _ _ _ h => h) (Or.inr ⟨by rfl, rfl⟩) rfl ?_
                refine norm_ (a' := ?_) ?_ ?_
                rotate_left
                · show Act.put _ (some 161) _ = _
                  (try simp only [Act.put, List.setIfInBounds_toArray, List.set_cons_zero, List.set_cons_succ, i64_w, i32_w])
                  rfl
                refine pure_ (i := 6) (N := some 162) (v := undef) #[true, true, true, true, true, true, true, false, false, false, false, false, false, false, false, false, false, false, false, false, false, false, false, false, false, false, false, false, false, false] rfl rfl (by kernel_rfl) (fun _ _ _ h => h) (Or.inr ⟨by rfl, rfl⟩) rfl ?_
                refine norm_ (a' := ?_) ?_ ?_
                rotate_left
                · show Act.put _ (some 162) _ = _
                  (try simp only [Act.put, List.setIfInBounds_toArray, List.set_cons_zero, List.set_cons_succ, i64_w, i32_w])
                  rfl
                refine pure_ (i := 7) (N := some 163) (v := undef) #[true, true, true, true, true, true, true, true, false, false, false, false, false, false, false, false, false, false, false, false, false, false, false, false, false, false, false, false, false, false] rfl rfl (by kernel_rfl) (fun _ _ _ h => h) (Or.inr ⟨by rfl, rfl⟩) rfl ?_
                refine norm_ (a' := ?_) ?_ ?_
                rotate_left
                · show Act.put _ (some 163) _ = _
                  (try simp only [Act.put, List.setIfInBounds_toArray, List.set_cons_zero, List.set_cons_succ, i64_w, i32_w])
                  rfl
                refine pure_ (i := 8) (N := some 164) (v := undef) #[true, true, true, true, true, true, true, true, true, false, false, false, false, false, false, false, false, false, false, false, false, false, false, false, false, false, false, false, false, false] rfl rfl (by kernel_rfl) (fun _ _ _ h => h) (Or.inr ⟨by rfl, rfl⟩) rfl ?_
                refine norm_ (a' := ?_) ?_ ?_
                rotate_left
                · show Act.put _ (some 164) _ = _
                  (try simp only [Act.put, List.setIfInBounds_toArray, List.set_cons_zero, List.set_cons_succ, i64_w, i32_w])
                  rfl
                refine pure_ (i := 9) (N := some 165) (v := undef) #[true, true, true, true, true, true, true, true, true, true, false, false, false, false, false, false, false, false, false, false, false, false, false, false, false, false, false, false, false, false] rfl rfl (by kernel_rfl) (fun _ _ _ h => h) (Or.inr ⟨by rfl, rfl⟩) rfl ?_
                refine norm_ (a' := ?_) ?_ ?_
                rotate_left
                · show Act.put _ (some 165) _ = _
                  (try simp only [Act.put, List.setIfInBounds_toArray, List.set_cons_zero, List.set_cons_succ, i64_w, i32_w])
                  rfl
                refine pure_ (i := 10) (N := some 166) (v := undef) #[true, true, true, true, true, true, true, true, true, true, true, false, false, false, false, false, false, false, false, false, false, false, false, false, false, false, false, false, false, false] rfl rfl (by kernel_rfl) (fun _ _ _ h => h) (Or.inr ⟨by rfl, rfl⟩) rfl ?_
                refine norm_ (a' := ?_) ?_ ?_
                rotate_left
                · show Act.put _ (some 166) _ = _
                  (try simp only [Act.put, List.setIfInBounds_toArray, List.set_cons_zero, List.set_cons_succ, i64_w, i32_w])
                  rfl
                refine pure_ (i := 11) (N := some 167) (v := undef) #[true, true, true, true, true, true, true, true, true, true, true, true, false, false, false, false, false, false, false, false, false, false, false, false, false, false, false, false, false, false] rfl rfl (by kernel_rfl) (fun _ _ _ h => h) (Or.inr ⟨by rfl, rfl⟩) rfl ?_
                refine norm_ (a' := ?_) ?_ ?_
                rotate_left
                · show Act.put _ (some 167) _ = _
                  (try simp only [Act.put, List.setIfInBounds_toArray, List.set_cons_zero, List.set_cons_succ, i64_w, i32_w])
                  rfl
                refine pure_ (i := 12) (N := some 168) (v := undef) #[true, true, true, true, true, true, true, true, true, true, true, true, true, false, false, false, false, false, false, false, false, false, false, false, false, false, false, false, false, false] rfl rfl (by kernel_rfl) (fun _ _ _ h => h) (Or.inr ⟨by rfl, rfl⟩) rfl ?_
                refine norm_ (a' := ?_) ?_ ?_
                rotate_left
                · show Act.put _ (some 168) _ = _
                  (try simp only [Act.put, List.setIfInBounds_toArray, List.set_cons_zero, List.set_cons_succ, i64_w, i32_w])
                  rfl
                refine pure_ (i := 13) (N := some 169) (v := undef) #[true, true, true, true, true, true, true, true, true, true, true, true, true, true, false, false, false, false, false, false, false, false, false, false, false, false, false, false, false, false] rfl rfl (by kernel_rfl) (fun _ _ _ h => h) (Or.inr ⟨by rfl, rfl⟩) rfl ?_
                refine norm_ (a' := ?_) ?_ ?_
                rotate_left
                · show Act.put _ (some 169) _ = _
                  (try simp only [Act.put, List.setIfInBounds_toArray, List.set_cons_zero, List.set_cons_succ, i64_w, i32_w])
                  rfl
                refine pure_ (i := 14) (N := (some 170)) (v := ?_) (a' := ?_) #[true, true, true, true, true, true, true, true, true, true, true, true, true, true, true, false, false, false, false, false, false, false, false, false, false, false, false, false, false, false] rfl rfl (by kernel_rfl) (fun _ _ _ h => h) (Or.inl ⟨by rfl, ?_⟩) ?_ ?_
                rotate_left
                · intro w'
                  go_simp
                  with_reducible rfl
                rotate_left
                · (try simp only [Act.put, List.setIfInBounds_toArray, List.set_cons_zero, List.set_cons_succ, i64_w, i32_w])
                  rfl
                refine pure_ (i := 15) (N := (some 171)) (v := ?_) (a' := ?_) #[true, true, true, true, true, true, true, true, true, true, true, true, true, true, true, true, false, false, false, false, false, false, false, false, false, false, false, false, false, false] rfl rfl (by kernel_rfl) (fun _ _ _ h => h) (Or.inl ⟨by rfl, ?_⟩) ?_ ?_
                rotate_left
                · intro w'
                  go_simp
                  with_reducible rfl
                rotate_left
                · (try simp only [Act.put, List.setIfInBounds_toArray, List.set_cons_zero, List.set_cons_succ, i64_w, i32_w])
                  rfl
                refine pure_ (i := 16) (N := (some 172)) (v := ?_) (a' := ?_) #[true, true, true, true, true, true, true, true, true, true, true, true, true, true, true, true, true, false, false, false, false, false, false, false, false, false, false, false, false, false] rfl rfl (by kernel_rfl) (fun _ _ _ h => h) (Or.inl ⟨by rfl, ?_⟩) ?_ ?_
                rotate_left
                · intro w'
                  go_simp
                  with_reducible rfl
                rotate_left
                · (try simp only [Act.put, List.setIfInBounds_toArray, List.set_cons_zero, List.set_cons_succ, i64_w, i32_w])
                  rfl
                refine pure_ (i := 17) (N := (some 173)) (v := ?_) (a' := ?_) #[true, true, true, true, true, true, true, true, true, true, true, true, true, true, true, true, true, true, false, false, false, false, false, false, false, false, false, false, false, false] rfl rfl (by kernel_rfl) (fun _ _ _ h => h) (Or.inl ⟨by rfl, ?_⟩) ?_ ?_
                rotate_left
                · intro w'
                  go_simp
                  with_reducible rfl
                rotate_left
                · (try simp only [Act.put, List.setIfInBounds_toArray, List.set_cons_zero, List.set_cons_succ, i64_w, i32_w])
                  rfl
                refine pure_ (i := 18) (N := some 174) (v := undef) #[true, true, true, true, true, true, true, true, true, true, true, true, true, true, true, true, true, true, true, false, false, false, false, false, false, false, false, false, false, false] rfl rfl (by kernel_rfl) (fun _ _ _ h => h) (Or.inr ⟨by rfl, rfl⟩) rfl ?_
                refine norm_ (a' := ?_) ?_ ?_
                rotate_left
                · show Act.put _ (some 174) _ = _
                  (try simp only [Act.put, List.setIfInBounds_toArray, List.set_cons_zero, List.set_cons_succ, i64_w, i32_w])
                  rfl
                refine pure_ (i := 19) (N := some 175) (v := undef) #[true, true, true, true, true, true, true, true, true, true, true, true, true, true, true, true, true, true, true, true, false, false, false, false, false, false, false, false, false, false] rfl rfl (by kernel_rfl) (fun _ _ _ h => h) (Or.inr ⟨by rfl, rfl⟩) rfl ?_
                refine norm_ (a' := ?_) ?_ ?_
                rotate_left
                · show Act.put _ (some 175) _ = _
                  (try simp only [Act.put, List.setIfInBounds_toArray, List.set_cons_zero, List.set_cons_succ, i64_w, i32_w])
                  rfl
                refine pure_ (i := 20) (N := some 176) (v := undef) #[true, true, true, true, true, true, true, true, true, true, true, true, true, true, true, true, true, true, true, true, true, false, false, false, false, false, false, false, false, false] rfl rfl (by kernel_rfl) (fun _ _ _ h => h) (Or.inr ⟨by rfl, rfl⟩) rfl ?_
                refine norm_ (a' := ?_) ?_ ?_
                rotate_left
                · show Act.put _ (some 176) _ = _
                  (try simp only [Act.put, List.setIfInBounds_toArray, List.set_cons_zero, List.set_cons_succ, i64_w, i32_w])
                  rfl
                refine pure_ (i := 21) (N := some 177) (v := undef) #[true, true, true, true, true, true, true, true, true, true, true, true, true, true, true, true, true, true, true, true, true, true, false, false, false, false, false, false, false, false] rfl rfl (by kernel_rfl) (fun _ _ _ h => h) (Or.inr ⟨by rfl, rfl⟩) rfl ?_
                refine norm_ (a' := ?_) ?_ ?_
                rotate_left
                · show Act.put _ (some 177) _ = _
                  (try simp only [Act.put, List.setIfInBounds_toArray, List.set_cons_zero, List.set_cons_succ, i64_w, i32_w])
                  rfl
                refine pure_ (i := 22) (N := some 178) (v := undef) #[true, true, true, true, true, true, true, true, true, true, true, true, true, true, true, true, true, true, true, true, true, true, true, false, false, false, false, false, false, false] rfl rfl (by kernel_rfl) (fun _ _ _ h => h) (Or.inr ⟨by rfl, rfl⟩) rfl ?_
                refine norm_ (a' := ?_) ?_ ?_
                rotate_left
                · show Act.put _ (some 178) _ = _
                  (try simp only [Act.put, List.setIfInBounds_toArray, List.set_cons_zero, List.set_cons_succ, i64_w, i32_w])
                  rfl
                refine pure_ (i := 23) (N := some 179) (v := undef) #[true, true, true, true, true, true, true, true, true, true, true, true, true, true, true, true, true, true, true, true, true, true, true, true, false, false, false, false, false, false] rfl rfl (by kernel_rfl) (fun _ _ _ h => h) (Or.inr ⟨by rfl, rfl⟩) rfl ?_
                refine norm_ (a' := ?_) ?_ ?_
                rotate_left
                · show Act.put _ (some 179) _ = _
                  (try simp only [Act.put, List.setIfInBounds_toArray, List.set_cons_zero, List.set_cons_succ, i64_w, i32_w])
                  rfl
                refine pure_ (i := 24) (N := some 180) (v := undef) #[true, true, true, true, true, true, true, true, true, true, true, true, true, true, true, true, true, true, true, true, true, true, true, true, true, false, false, false, false, false] rfl rfl (by kernel_rfl) (fun _ _ _ h => h) (Or.inr ⟨by rfl, rfl⟩) rfl ?_
                refine norm_ (a' := ?_) ?_ ?_
                rotate_left
                · show Act.put _ (some 180) _ = _
                  (try simp only [Act.put, List.setIfInBounds_toArray, List.set_cons_zero, List.set_cons_succ, i64_w, i32_w])
                  rfl
                refine pure_ (i := 25) (N := some 181) (v := undef) #[true, true, true, true, true, true, true, true, true, true, true, true, true, true, true, true, true, true, true, true, true, true, true, true, true, true, false, false, false, false] rfl rfl (by kernel_rfl) (fun _ _ _ h => h) (Or.inr ⟨by rfl, rfl⟩) rfl ?_
                refine norm_ (a' := ?_) ?_ ?_
                rotate_left
                · show Act.put _ (some 181) _ = _
                  (try simp only [Act.put, List.setIfInBounds_toArray, List.set_cons_zero, List.set_cons_succ, i64_w, i32_w])
                  rfl
                refine pure_ (i := 26) (N := some 182) (v := undef) #[true, true, true, true, true, true, true, true, true, true, true, true, true, true, true, true, true, true, true, true, true, true, true, true, true, true, true, false, false, false] rfl rfl (by kernel_rfl) (fun _ _ _ h => h) (Or.inr ⟨by rfl, rfl⟩) rfl ?_
                refine norm_ (a' := ?_) ?_ ?_
                rotate_left
                · show Act.put _ (some 182) _ = _
                  (try simp only [Act.put, List.setIfInBounds_toArray, List.set_cons_zero, List.set_cons_succ, i64_w, i32_w])
                  rfl
                refine pure_ (i := 27) (N := some 183) (v := undef) #[true, true, true, true, true, true, true, true, true, true, true, true, true, true, true, true, true, true, true, true, true, true, true, true, true, true, true, true, false, false] rfl rfl (by kernel_rfl) (fun _ _ _ h => h) (Or.inr ⟨by rfl, rfl⟩) rfl ?_
                refine norm_ (a' := ?_) ?_ ?_
                rotate_left
                · show Act.put _ (some 183) _ = _
                  (try simp only [Act.put, List.setIfInBounds_toArray, List.set_cons_zero, List.set_cons_succ, i64_w, i32_w])
                  rfl
                refine pure_ (i := 28) (N := (some 184)) (v := ?_) (a' := ?_) #[true, true, true, true, true, true, true, true, true, true, true, true, true, true, true, true, true, true, true, true, true, true, true, true, true, true, true, true, true, false] rfl rfl (by kernel_rfl) (fun _ _ _ h => h) (Or.inl ⟨by rfl, ?_⟩) ?_ ?_
                rotate_left
                · intro w'
                  go_simp
                  with_reducible rfl
                rotate_left
                · (try simp only [Act.put, List.setIfInBounds_toArray, List.set_cons_zero, List.set_cons_succ, i64_w, i32_w])
                  rfl
                refine pure_ (i := 29) (N := (some 185)) (v := ?_) (a' := ?_) #[true, true, true, true, true, true, true, true, true, true, true, true, true, true, true, true, true, true, true, true, true, true, true, true, true, true, true, true, true, true] rfl rfl (by kernel_rfl) (fun _ _ _ h => h) (Or.inl ⟨by rfl, ?_⟩) ?_ ?_
                rotate_left
                · intro w'
                  go_simp
                  with_reducible rfl
                rotate_left
                · (try simp only [Act.put, List.setIfInBounds_toArray, List.set_cons_zero, List.set_cons_succ, i64_w, i32_w])
                  rfl
                refine done_ (by kernel_rfl) ?_
                go_wp2
                go_meet
                exact ⟨rfl, ⟨below_step HD.out hHeld⟩⟩
            · subst ek; subst eb; subst fk; subst fb; clear CK CN
              have ER := Aside0.mk er; clear er
              have HD := Aside0.mk (Below.refl wc.heap.size wc)
              have h0n : (0 : Int) ≤ (n : Int) := by omega
              have hnl : (n : Int) < (es2.length : Int) := by omega
              obtain ⟨ad5, ea, i0, i1, i2, i3, i4⟩ := at_T45 (Kd.R_reads' HRo.out).2.2 (n : Int) (by omega) (by omega)
              subst ea
              clear i0 i1 i2 i3 i4
              have hry : rd_T45 es2 (n : Int) = es2[n] := by simp [rd_T45, hn]
              generalize es2[n] = y at hry fr
              have e0 : y.f0 = ov.f0 := by rw [fr]; rfl
              have e1 : y.f1 = ov.f1 := by rw [fr]; rfl
              have e2 : y.f2 = ov.f2 := by rw [fr]; rfl
              have e3 : y.f3 = ov.f3 := by rw [fr]; rfl
              have e4 : y.f4 = ov.f4 := by rw [fr]; rfl
              clear fr
              as_aux_lemma =>
                have n_HB := Aside0.mk (below_drew1 HB.out); have n_HD := Aside0.mk (below_drew1 HD.out); have n_BS := Aside0.mk (blk_drew BS.out); have n_HRr := Aside0.mk (Kd.R_drew HRr.out); have n_HRo := Aside0.mk (Kd.R_drew HRo.out); have n_BR := Aside0.mk (blk_drew BR.out); have n_BO := Aside0.mk (blk_drew BO.out); clear HB HD BS HRr HRo BR BO; have HB := n_HB; clear n_HB; have HD := n_HD; clear n_HD; have BS := n_BS; clear n_BS; have HRr := n_HRr; clear n_HRr; have HRo := n_HRo; clear n_HRo; have BR := n_BR; clear n_BR; have BO := n_BO; clear n_BO
                refine start_ (n := 30) (S := fun w' => Below wc.drew.heap.size wc.drew w') (ds := []) #[false, false, false, false, false, false, false, false, false, false, false, false, false, false, false, false, false, false, false, false, false, false, false, false, false, false, false, false, false, false] (by kernel_rfl) rfl rfl (Below.refl _ _) (fun hHeld => ?_)
                generalize wc.drew = wS at HB HD BS HRr HRo BR BO hHeld ⊢
                have BS1 := BS
                have HRr1 := HRr
                have HRo1 := HRo
                have BR1 := BR
                have BO1 := BO
                clear BS HRo BR BO
                refine pure_ (i := 0) (N := (some 156)) (v := ?_) (a' := ?_) #[true, false, false, false, false, false, false, false, false, false, false, false, false, false, false, false, false, false, false, false, false, false, false, false, false, false, false, false, false, false] rfl rfl (by kernel_rfl) (fun _ _ _ h => h) (Or.inl ⟨by rfl, ?_⟩) ?_ ?_
                rotate_left
                · intro w'
                  go_simp
                  with_reducible rfl
                rotate_left
                · (try simp only [Act.put, List.setIfInBounds_toArray, List.set_cons_zero, List.set_cons_succ, i64_w, i32_w])
                  rfl
                refine pure_ (i := 1) (N := (some 157)) (v := ?_) (a' := ?_) #[true, true, false, false, false, false, false, false, false, false, false, false, false, false, false, false, false, false, false, false, false, false, false, false, false, false, false, false, false, false] rfl rfl (by kernel_rfl) (fun _ _ _ h => h) (Or.inl ⟨by rfl, ?_⟩) ?_ ?_
                rotate_left
                · intro w'
                  go_simp
                  with_reducible rfl
                rotate_left
                · (try simp only [Act.put, List.setIfInBounds_toArray, List.set_cons_zero, List.set_cons_succ, i64_w, i32_w])
                  rfl
                refine pure_ (i := 2) (N := some 158) (v := undef) #[true, true, true, false, false, false, false, false, false, false, false, false, false, false, false, false, false, false, false, false, false, false, false, false, false, false, false, false, false, false] rfl rfl (by kernel_rfl) (fun _ _ _ h => h) (Or.inr ⟨by rfl, rfl⟩) rfl ?_
                refine norm_ (a' := ?_) ?_ ?_
                rotate_left
                · show Act.put _ (some 158) _ = _
                  (try simp only [Act.put, List.setIfInBounds_toArray, List.set_cons_zero, List.set_cons_succ, i64_w, i32_w])
                  rfl
                refine pure_ (i := 3) (N := some 159) (v := undef) #[true, true, true, true, false, false, false, false, false, false, false, false, false, false, false, false, false, false, false, false, false, false, false, false, false, false, false, false, false, false] rfl rfl (by kernel_rfl) (fun _ _ _ h => h) (Or.inr ⟨by rfl, rfl⟩) rfl ?_
                refine norm_ (a' := ?_) ?_ ?_
                rotate_left
                · show Act.put _ (some 159) _ = _
                  (try simp only [Act.put, List.setIfInBounds_toArray, List.set_cons_zero, List.set_cons_succ, i64_w, i32_w])
                  rfl
                refine pure_ (i := 4) (N := some 160) (v := undef) #[true, true, true, true, true, false, false, false, false, false, false, false, false, false, false, false, false, false, false, false, false, false, false, false, false, false, false, false, false, false] rfl rfl (by kernel_rfl) (fun _ _ _ h => h) (Or.inr ⟨by rfl, rfl⟩) rfl ?_
                refine norm_ (a' := ?_) ?_ ?_
                rotate_left
                · show Act.put _ (some 160) _ = _
                  (try simp only [Act.put, List.setIfInBounds_toArray, List.set_cons_zero, List.set_cons_succ, i64_w, i32_w])
                  rfl
                refine pure_ (i := 5) (N := some 161) (v := undef) #[true, true, true, true, true, true, false, false, false, false, false, false, false, false, false, false, false, false, false, false, false, false, false, false, false, false, false, false, false, false] rfl rfl (by kernel_rfl) (fun _ _ _ h => h) (Or.inr ⟨by rfl, rfl⟩) rfl ?_
                refine norm_ (a' := ?_) ?_ ?_
                rotate_left
                · show Act.put _ (some 161) _ = _
                  (try simp only [Act.put, List.setIfInBounds_toArray, List.set_cons_zero, List.set_cons_succ, i64_w, i32_w])
                  rfl
                refine pure_ (i := 6) (N := some 162) (v := undef) #[true, true, true, true, true, true, true, false, false, false, false, false, false, false, false, false, false, false, false, false, false, false, false, false, false, false, false, false, false, false] rfl rfl (by kernel_rfl) (fun _ _ _ h => h) (Or.inr ⟨by rfl, rfl⟩) rfl ?_
                refine norm_ (a' := ?_) ?_ ?_
                rotate_left
                · show Act.put _ (some 162) _ = _
                  (try simp only [Act.put, List.setIfInBounds_toArray, List.set_cons_zero, List.set_cons_succ, i64_w, i32_w])
                  rfl
                refine pure_ (i := 7) (N := some 163) (v := undef) #[true, true, true, true, true, true, true, true, false, false, false, false, false, false, false, false, false, false, false, false, false, false, false, false, false, false, false, false, false, false] rfl rfl (by kernel_rfl) (fun _ _ _ h => h) (Or.inr ⟨by rfl, rfl⟩) rfl ?_
                refine norm_ (a' := ?_) ?_ ?_
                rotate_left
                · show Act.put _ (some 163) _ = _
                  (try simp only [Act.put, List.setIfInBounds_toArray, List.set_cons_zero, List.set_cons_succ, i64_w, i32_w])
                  rfl
                refine pure_ (i := 8) (N := some 164) (v := undef) #[true, true, true, true, true, true, true, true, true, false, false, false, false, false, false, false, false, false, false, false, false, false, false, false, false, false, false, false, false, false] rfl rfl (by kernel_rfl) (fun _ _ _ h => h) (Or.inr ⟨by rfl, rfl⟩) rfl ?_
                refine norm_ (a' := ?_) ?_ ?_
                rotate_left
                · show Act.put _ (some 164) _ = _
                  (try simp only [Act.put, List.setIfInBounds_toArray, List.set_cons_zero, List.set_cons_succ, i64_w, i32_w])
                  rfl
                refine pure_ (i := 9) (N := some 165) (v := undef) #[true, true, true, true, true, true, true, true, true, true, false, false, false, false, false, false, false, false, false, false, false, false, false, false, false, false, false, false, false, false] rfl rfl (by kernel_rfl) (fun _ _ _ h => h) (Or.inr ⟨by rfl, rfl⟩) rfl ?_
                refine norm_ (a' := ?_) ?_ ?_
                rotate_left
                · show Act.put _ (some 165) _ = _
                  (try simp only [Act.put, List.setIfInBounds_toArray, List.set_cons_zero, List.set_cons_succ, i64_w, i32_w])
                  rfl
                refine pure_ (i := 10) (N := some 166) (v := undef) #[true, true, true, true, true, true, true, true, true, true, true, false, false, false, false, false, false, false, false, false, false, false, false, false, false, false, false, false, false, false] rfl rfl (by kernel_rfl) (fun _ _ _ h => h) (Or.inr ⟨by rfl, rfl⟩) rfl ?_
                refine norm_ (a' := ?_) ?_ ?_
                rotate_left
                · show Act.put _ (some 166) _ = _
                  (try simp only [Act.put, List.setIfInBounds_toArray, List.set_cons_zero, List.set_cons_succ, i64_w, i32_w])
                  rfl
                refine pure_ (i := 11) (N := some 167) (v := undef) #[true, true, true, true, true, true, true, true, true, true, true, true, false, false, false, false, false, false, false, false, false, false, false, false, false, false, false, false, false, false] rfl rfl (by kernel_rfl) (fun _ _ _ h => h) (Or.inr ⟨by rfl, rfl⟩) rfl ?_
                refine norm_ (a' := ?_) ?_ ?_
                rotate_left
                · show Act.put _ (some 167) _ = _
                  (try simp only [Act.put, List.setIfInBounds_toArray, List.set_cons_zero, List.set_cons_succ, i64_w, i32_w])
                  rfl
                refine pure_ (i := 12) (N := some 168) (v := undef) #[true, true, true, true, true, true, true, true, true, true, true, true, true, false, false, false, false, false, false, false, false, false, false, false, false, false, false, false, false, false] rfl rfl (by kernel_rfl) (fun _ _ _ h => h) (Or.inr ⟨by rfl, rfl⟩) rfl ?_
                refine norm_ (a' := ?_) ?_ ?_
                rotate_left
                · show Act.put _ (some 168) _ = _
                  (try simp only [Act.put, List.setIfInBounds_toArray, List.set_cons_zero, List.set_cons_succ, i64_w, i32_w])
                  rfl
                refine pure_ (i := 13) (N := some 169) (v := undef) #[true, true, true, true, true, true, true, true, true, true, true, true, true, true, false, false, false, false, false, false, false, false, false, false, false, false, false, false, false, false] rfl rfl (by kernel_rfl) (fun _ _ _ h => h) (Or.inr ⟨by rfl, rfl⟩) rfl ?_
                refine norm_ (a' := ?_) ?_ ?_
                rotate_left
                · show Act.put _ (some 169) _ = _
                  (try simp only [Act.put, List.setIfInBounds_toArray, List.set_cons_zero, List.set_cons_succ, i64_w, i32_w])
                  rfl
                refine pure_ (i := 14) (N := (some 170)) (v := ?_) (a' := ?_) #[true, true, true, true, true, true, true, true, true, true, true, true, true, true, true, false, false, false, false, false, false, false, false, false, false, false, false, false, false, false] rfl rfl (by kernel_rfl) (fun _ _ _ h => h) (Or.inl ⟨by rfl, ?_⟩) ?_ ?_
                rotate_left
                · intro w'
                  go_simp
                  with_reducible rfl
                rotate_left
                · (try simp only [Act.put, List.setIfInBounds_toArray, List.set_cons_zero, List.set_cons_succ, i64_w, i32_w])
                  rfl
                refine pure_ (i := 15) (N := (some 171)) (v := ?_) (a' := ?_) #[true, true, true, true, true, true, true, true, true, true, true, true, true, true, true, true, false, false, false, false, false, false, false, false, false, false, false, false, false, false] rfl rfl (by kernel_rfl) (fun _ _ _ h => h) (Or.inl ⟨by rfl, ?_⟩) ?_ ?_
                rotate_left
                · intro w'
                  go_simp
                  with_reducible rfl
                rotate_left
                · (try simp only [Act.put, List.setIfInBounds_toArray, List.set_cons_zero, List.set_cons_succ, i64_w, i32_w])
                  rfl
                refine pure_ (i := 16) (N := (some 172)) (v := ?_) (a' := ?_) #[true, true, true, true, true, true, true, true, true, true, true, true, true, true, true, true, true, false, false, false, false, false, false, false, false, false, false, false, false, false] rfl rfl (by kernel_rfl) (fun _ _ _ h => h) (Or.inl ⟨by rfl, ?_⟩) ?_ ?_
                rotate_left
                · intro w'
                  go_simp
                  with_reducible rfl
                rotate_left
                · (try simp only [Act.put, List.setIfInBounds_toArray, List.set_cons_zero, List.set_cons_succ, i64_w, i32_w])
                  rfl
                refine pure_ (i := 17) (N := (some 173)) (v := ?_) (a' := ?_) #[true, true, true, true, true, true, true, true, true, true, true, true, true, true, true, true, true, true, false, false, false, false, false, false, false, false, false, false, false, false] rfl rfl (by kernel_rfl) (fun _ _ _ h => h) (Or.inl ⟨by rfl, ?_⟩) ?_ ?_
                rotate_left
                · intro w'
                  go_simp
                  with_reducible rfl
                rotate_left
                · (try simp only [Act.put, List.setIfInBounds_toArray, List.set_cons_zero, List.set_cons_succ, i64_w, i32_w])
                  rfl
                refine take_ (i := 18) (N := some 174) (v := ?_) (a' := ?_) #[true, true, true, true, true, true, true, true, true, true, true, true, true, true, true, true, true, true, true, false, false, false, false, false, false, false, false, false, false, false] rfl rfl (by kernel_rfl) (fun _ _ _ h => h) (Or.inl ⟨by rfl, ?_⟩) hHeld ?_ ?_
                rotate_left
                · intro w' s0
                  have q0 : World.cell? w' ⟨go, 0, none⟩ = some (.int .i64 ov.f0) := (blk_cell (blk_below BO1.out s0) 0).trans rfl
                  have q1 : World.cell? w' ⟨go, 1, none⟩ = some (.int .i64 ov.f1) := (blk_cell (blk_below BO1.out s0) 1).trans rfl
                  have q2 : World.cell? w' ⟨go, 2, none⟩ = some (.int .i64 ov.f2) := (blk_cell (blk_below BO1.out s0) 2).trans rfl
                  have q3 : World.cell? w' ⟨go, 3, none⟩ = some (.int .i64 ov.f3) := (blk_cell (blk_below BO1.out s0) 3).trans rfl
                  have q4 : World.cell? w' ⟨go, 4, none⟩ = some (.bool ov.f4) := (blk_cell (blk_below BO1.out s0) 4).trans rfl
                  go_simp
                  with_reducible rfl
                rotate_left
                · (try simp only [Act.put, List.setIfInBounds_toArray, List.set_cons_zero, List.set_cons_succ, i64_w, i32_w])
                  rfl
                refine pure_ (i := 19) (N := (some 175)) (v := ?_) (a' := ?_) #[true, true, true, true, true, true, true, true, true, true, true, true, true, true, true, true, true, true, true, true, false, false, false, false, false, false, false, false, false, false] rfl rfl (by kernel_rfl) (fun _ _ _ h => h) (Or.inl ⟨by rfl, ?_⟩) ?_ ?_
                rotate_left
                · intro w'
                  go_simp
                  with_reducible rfl
                rotate_left
                · (try simp only [Act.put, List.setIfInBounds_toArray, List.set_cons_zero, List.set_cons_succ, i64_w, i32_w])
                  rfl
                refine pure_ (i := 20) (N := (some 176)) (v := ?_) (a' := ?_) #[true, true, true, true, true, true, true, true, true, true, true, true, true, true, true, true, true, true, true, true, true, false, false, false, false, false, false, false, false, false] rfl rfl (by kernel_rfl) (fun _ _ _ h => h) (Or.inl ⟨by rfl, ?_⟩) ?_ ?_
                rotate_left
                · intro w'
                  go_simp
                  with_reducible rfl
                rotate_left
                · (try simp only [Act.put, List.setIfInBounds_toArray, List.set_cons_zero, List.set_cons_succ, i64_w, i32_w])
                  rfl
                refine pure_ (i := 21) (N := (some 177)) (v := ?_) (a' := ?_) #[true, true, true, true, true, true, true, true, true, true, true, true, true, true, true, true, true, true, true, true, true, true, false, false, false, false, false, false, false, false] rfl rfl (by kernel_rfl) (fun _ _ _ h => h) (Or.inl ⟨by rfl, ?_⟩) ?_ ?_
                rotate_left
                · intro w'
                  go_simp
                  with_reducible rfl
                rotate_left
                · (try simp only [Act.put, List.setIfInBounds_toArray, List.set_cons_zero, List.set_cons_succ, i64_w, i32_w])
                  rfl
                refine take_ (i := 22) (N := some 178) (v := ?_) (a' := ?_) #[true, true, true, true, true, true, true, true, true, true, true, true, true, true, true, true, true, true, true, true, true, true, true, false, false, false, false, false, false, false] rfl rfl (by kernel_rfl) (fun _ _ _ h => h) (Or.inl ⟨by rfl, ?_⟩) hHeld ?_ ?_
                rotate_left
                · intro w' s0
                  have q0 : World.cell? w' ⟨gv, 0, none⟩ = some (.slice Ar ds2.length cr) := (blk_cell (blk_below BS1.out s0) 0).trans rfl
                  have q1 : World.cell? w' ⟨gv, 1, none⟩ = some (.slice (some ad5) es2.length co) := (blk_cell (blk_below BS1.out s0) 1).trans rfl
                  go_simp
                  with_reducible rfl
                rotate_left
                · (try simp only [Act.put, List.setIfInBounds_toArray, List.set_cons_zero, List.set_cons_succ, i64_w, i32_w])
                  rfl
                refine pure_ (i := 23) (N := (some 179)) (v := ?_) (a' := ?_) #[true, true, true, true, true, true, true, true, true, true, true, true, true, true, true, true, true, true, true, true, true, true, true, true, false, false, false, false, false, false] rfl rfl (by kernel_rfl) (fun _ _ _ h => h) (Or.inl ⟨by rfl, ?_⟩) ?_ ?_
                rotate_left
                · intro w'
                  go_simp
                  with_reducible rfl
                rotate_left
                · (try simp only [Act.put, List.setIfInBounds_toArray, List.set_cons_zero, List.set_cons_succ, i64_w, i32_w])
                  rfl
                refine pure_ (i := 24) (N := (some 180)) (v := ?_) (a' := ?_) #[true, true, true, true, true, true, true, true, true, true, true, true, true, true, true, true, true, true, true, true, true, true, true, true, true, false, false, false, false, false] rfl rfl (by kernel_rfl) (fun _ _ _ h => h) (Or.inl ⟨by rfl, ?_⟩) ?_ ?_
                rotate_left
                · intro w'
                  go_simp
                  with_reducible rfl
                rotate_left
                · (try simp only [Act.put, List.setIfInBounds_toArray, List.set_cons_zero, List.set_cons_succ, i64_w, i32_w])
                  rfl
                refine take_ (i := 25) (N := some 181) (v := ?_) (a' := ?_) #[true, true, true, true, true, true, true, true, true, true, true, true, true, true, true, true, true, true, true, true, true, true, true, true, true, true, false, false, false, false] rfl rfl (by kernel_rfl) (fun _ _ _ h => h) (Or.inl ⟨by rfl, ?_⟩) hHeld ?_ ?_
                rotate_left
                · intro w' s0
                  have ht := at_T45 (Kd.C_below (Kd.R_reads' HRo1.out).2.2 s0) (n : Int) (by omega) (by omega)
                  obtain ⟨ad6, ea, i0, i1, i2, i3, i4⟩ := ht
                  cases ea
                  rw [hry] at i0 i1 i2 i3 i4
                  simp only [Int.toNat_natCast] at i0 i1 i2 i3 i4
                  go_simp
                  with_reducible rfl
                rotate_left
                · (try simp only [Act.put, List.setIfInBounds_toArray, List.set_cons_zero, List.set_cons_succ, i64_w, i32_w])
                  rfl
                refine one_ (i := 26) (N := (some 182)) #[true, true, true, true, true, true, true, true, true, true, true, true, true, true, true, true, true, true, true, true, true, true, true, true, true, true, true, false, false, false] rfl rfl (by kernel_rfl) (by decide) (fun K hK => ?_)
                refine goes_ Try.func16 (by kernel_rfl) rfl #[.agg #[.int .i64 ov.f0, .int .i64 ov.f1, .int .i64 ov.f2, .int .i64 ov.f3, .bool ov.f4]] (by rfl) rfl rfl (by (try simp only [List.map_toArray, List.map_cons, List.map_nil]); first | done | rfl | (simp only [List.length_drop, List.length_take]; rfl)) ?_
                refine (quarrellaw12_own.calls _ _ _ _ _ ov.f0 ov.f1 ov.f2 ov.f3 ov.f4 _ rfl).mono ?_
                rintro e w7 ⟨rfl, hb⟩
                refine ⟨_, rfl, ?_⟩
                have hh := below_step hHeld hb; clear hHeld; have hHeld := hh; clear hh
                clear hb
                refine hK.out _ _ hHeld (fun _ => ?_)
                clear hK K
                refine norm_ (a' := ?_) ?_ ?_
                rotate_left
                · show Act.put _ (some 182) _ = _
                  (try simp only [Act.put, List.setIfInBounds_toArray, List.set_cons_zero, List.set_cons_succ, i64_w, i32_w])
                  rfl
                refine pure_ (i := 27) (N := (some 183)) (v := ?_) (a' := ?_) #[true, true, true, true, true, true, true, true, true, true, true, true, true, true, true, true, true, true, true, true, true, true, true, true, true, true, true, true, false, false] rfl rfl (by kernel_rfl) (fun _ _ _ h => h) (Or.inl ⟨by rfl, ?_⟩) ?_ ?_
                rotate_left
                · intro w'
                  go_simp
                  with_reducible rfl
                rotate_left
                · (try simp only [Act.put, List.setIfInBounds_toArray, List.set_cons_zero, List.set_cons_succ, i64_w, i32_w])
                  rfl
                refine pure_ (i := 28) (N := (some 184)) (v := ?_) (a' := ?_) #[true, true, true, true, true, true, true, true, true, true, true, true, true, true, true, true, true, true, true, true, true, true, true, true, true, true, true, true, true, false] rfl rfl (by kernel_rfl) (fun _ _ _ h => h) (Or.inl ⟨by rfl, ?_⟩) ?_ ?_
                rotate_left
                · intro w'
                  go_simp
                  with_reducible rfl
                rotate_left
                · (try simp only [Act.put, List.setIfInBounds_toArray, List.set_cons_zero, List.set_cons_succ, i64_w, i32_w])
                  rfl
                refine pure_ (i := 29) (N := (some 185)) (v := ?_) (a' := ?_) #[true, true, true, true, true, true, true, true, true, true, true, true, true, true, true, true, true, true, true, true, true, true, true, true, true, true, true, true, true, true] rfl rfl (by kernel_rfl) (fun _ _ _ h => h) (Or.inl ⟨by rfl, ?_⟩) ?_ ?_
                rotate_left
                · intro w'
                  go_simp
                  with_reducible rfl
                rotate_left
                · (try simp only [Act.put, List.setIfInBounds_toArray, List.set_cons_zero, List.set_cons_succ, i64_w, i32_w])
                  rfl
                refine done_ (by kernel_rfl) ?_
                go_wp2
                go_meet
                exact ⟨rfl, ⟨below_step HD.out hHeld⟩⟩
            · subst ek; subst eb; subst fk; subst fb; clear CK CN
              have ER := Aside0.mk er; clear er
              have HD := Aside0.mk (Below.refl wc.heap.size wc)
              have h0k : (0 : Int) ≤ (k : Int) := by omega
              have h01k : (0 : Int) ≤ (k : Int) + 1 := by omega
              have hkl : (k : Int) < (ds2.length : Int) := by omega
              have hkc : (k : Int) + 1 ≤ (cr : Int) := by have := LCr.out; omega
              have hwk : RowKit.wrap64 ((k : Int) + 1) = (k : Int) + 1 := by have := HL2.out.1; unfold RowKit.wrap64; omega
              clear fr
              as_aux_lemma =>
                have n_HB := Aside0.mk (below_drew1 HB.out); have n_HD := Aside0.mk (below_drew1 HD.out); have n_BS := Aside0.mk (blk_drew BS.out); have n_HRr := Aside0.mk (Kd.R_drew HRr.out); have n_HRo := Aside0.mk (Kd.R_drew HRo.out); have n_BR := Aside0.mk (blk_drew BR.out); have n_BO := Aside0.mk (blk_drew BO.out); clear HB HD BS HRr HRo BR BO; have HB := n_HB; clear n_HB; have HD := n_HD; clear n_HD; have BS := n_BS; clear n_BS; have HRr := n_HRr; clear n_HRr; have HRo := n_HRo; clear n_HRo; have BR := n_BR; clear n_BR; have BO := n_BO; clear n_BO
                refine start_ (n := 30) (S := fun w' => Below wc.drew.heap.size wc.drew w') (ds := []) #[false, false, false, false, false, false, false, false, false, false, false, false, false, false, false, false, false, false, false, false, false, false, false, false, false, false, false, false, false, false] (by kernel_rfl) rfl rfl (Below.refl _ _) (fun hHeld => ?_)
                generalize wc.drew = wS at HB HD BS HRr HRo BR BO hHeld ⊢
                have BS1 := BS
                have HRr1 := HRr
                have HRo1 := HRo
                have BR1 := BR
                have BO1 := BO
                clear BS HRo BR BO
                refine pure_ (i := 0) (N := (some 156)) (v := ?_) (a' := ?_) #[true, false, false, false, false, false, false, false, false, false, false, false, false, false, false, false, false, false, false, false, false, false, false, false, false, false, false, false, false, false] rfl rfl (by kernel_rfl) (fun _ _ _ h => h) (Or.inl ⟨by rfl, ?_⟩) ?_ ?_
                rotate_left
                · intro w'
                  go_simp
                  with_reducible rfl
                rotate_left
                · (try simp only [Act.put, List.setIfInBounds_toArray, List.set_cons_zero, List.set_cons_succ, i64_w, i32_w])
                  rfl
                refine pure_ (i := 1) (N := (some 157)) (v := ?_) (a' := ?_) #[true, true, false, false, false, false, false, false, false, false, false, false, false, false, false, false, false, false, false, false, false, false, false, false, false, false, false, false, false, false] rfl rfl (by kernel_rfl) (fun _ _ _ h => h) (Or.inl ⟨by rfl, ?_⟩) ?_ ?_
                rotate_left
                · intro w'
                  go_simp
                  with_reducible rfl
                rotate_left
                · (try simp only [Act.put, List.setIfInBounds_toArray, List.set_cons_zero, List.set_cons_succ, i64_w, i32_w])
                  rfl
                refine take_ (i := 2) (N := some 158) (v := ?_) (a' := ?_) #[true, true, true, false, false, false, false, false, false, false, false, false, false, false, false, false, false, false, false, false, false, false, false, false, false, false, false, false, false, false] rfl rfl (by kernel_rfl) (fun _ _ _ h => h) (Or.inl ⟨by rfl, ?_⟩) hHeld ?_ ?_
                rotate_left
                · intro w' s0
                  have q0 : World.cell? w' ⟨gr, 0, none⟩ = some (.int .i64 rv.f0) := (blk_cell (blk_below BR1.out s0) 0).trans rfl
                  have q1 : World.cell? w' ⟨gr, 1, none⟩ = some (.int .i64 rv.f1) := (blk_cell (blk_below BR1.out s0) 1).trans rfl
                  have q2 : World.cell? w' ⟨gr, 2, none⟩ = some (.int .i64 rv.f2) := (blk_cell (blk_below BR1.out s0) 2).trans rfl
                  go_simp
                  with_reducible rfl
                rotate_left
                · (try simp only [Act.put, List.setIfInBounds_toArray, List.set_cons_zero, List.set_cons_succ, i64_w, i32_w])
                  rfl
                refine pure_ (i := 4) (N := (some 160)) (v := ?_) (a' := ?_) #[true, true, true, false, true, false, false, false, false, false, false, false, false, false, false, false, false, false, false, false, false, false, false, false, false, false, false, false, false, false] rfl rfl (by kernel_rfl) (fun _ _ _ h => h) (Or.inl ⟨by rfl, ?_⟩) ?_ ?_
                rotate_left
                · intro w'
                  go_simp
                  with_reducible rfl
                rotate_left
                · (try simp only [Act.put, List.setIfInBounds_toArray, List.set_cons_zero, List.set_cons_succ, i64_w, i32_w])
                  rfl
                refine pure_ (i := 5) (N := (some 161)) (v := ?_) (a' := ?_) #[true, true, true, false, true, true, false, false, false, false, false, false, false, false, false, false, false, false, false, false, false, false, false, false, false, false, false, false, false, false] rfl rfl (by kernel_rfl) (fun _ _ _ h => h) (Or.inl ⟨by rfl, ?_⟩) ?_ ?_
                rotate_left
                · intro w'
                  go_simp
                  with_reducible rfl
                rotate_left
                · (try simp only [Act.put, List.setIfInBounds_toArray, List.set_cons_zero, List.set_cons_succ, i64_w, i32_w])
                  rfl
                refine pure_ (i := 6) (N := (some 162)) (v := ?_) (a' := ?_) #[true, true, true, false, true, true, true, false, false, false, false, false, false, false, false, false, false, false, false, false, false, false, false, false, false, false, false, false, false, false] rfl rfl (by kernel_rfl) (fun _ _ _ h => h) (Or.inl ⟨by rfl, ?_⟩) ?_ ?_
                rotate_left
                · intro w'
                  go_simp
                  with_reducible rfl
                rotate_left
                · (try simp only [Act.put, List.setIfInBounds_toArray, List.set_cons_zero, List.set_cons_succ, i64_w, i32_w])
                  rfl
                refine take_ (i := 7) (N := some 163) (v := ?_) (a' := ?_) #[true, true, true, false, true, true, true, true, false, false, false, false, false, false, false, false, false, false, false, false, false, false, false, false, false, false, false, false, false, false] rfl rfl (by kernel_rfl) (fun _ _ _ h => h) (Or.inl ⟨by rfl, ?_⟩) hHeld ?_ ?_
                rotate_left
                · intro w' s0
                  have q0 : World.cell? w' ⟨gv, 0, none⟩ = some (.slice Ar ds2.length cr) := (blk_cell (blk_below BS1.out s0) 0).trans rfl
                  have q1 : World.cell? w' ⟨gv, 1, none⟩ = some (.slice Ao es2.length co) := (blk_cell (blk_below BS1.out s0) 1).trans rfl
                  go_simp
                  with_reducible rfl
                rotate_left
                · (try simp only [Act.put, List.setIfInBounds_toArray, List.set_cons_zero, List.set_cons_succ, i64_w, i32_w])
                  rfl
                refine pure_ (i := 8) (N := (some 164)) (v := ?_) (a' := ?_) #[true, true, true, false, true, true, true, true, true, false, false, false, false, false, false, false, false, false, false, false, false, false, false, false, false, false, false, false, false, false] rfl rfl (by kernel_rfl) (fun _ _ _ h => h) (Or.inl ⟨by rfl, ?_⟩) ?_ ?_
                rotate_left
                · intro w'
                  go_simp
                  with_reducible rfl
                rotate_left
                · (try simp only [Act.put, List.setIfInBounds_toArray, List.set_cons_zero, List.set_cons_succ, i64_w, i32_w])
                  rfl
                refine pure_ (i := 9) (N := (some 165)) (v := ?_) (a' := ?_) #[true, true, true, false, true, true, true, true, true, true, false, false, false, false, false, false, false, false, false, false, false, false, false, false, false, false, false, false, false, false] rfl rfl (by kernel_rfl) (fun _ _ _ h => h) (Or.inl ⟨by rfl, ?_⟩) ?_ ?_
                rotate_left
                · intro w'
                  go_simp
                  with_reducible rfl
                rotate_left
                · (try simp only [Act.put, List.setIfInBounds_toArray, List.set_cons_zero, List.set_cons_succ, i64_w, i32_w])
                  rfl
                refine pure_ (i := 10) (N := (some 166)) (v := ?_) (a' := ?_) #[true, true, true, false, true, true, true, true, true, true, true, false, false, false, false, false, false, false, false, false, false, false, false, false, false, false, false, false, false, false] rfl rfl (by kernel_rfl) (fun _ _ _ h => h) (Or.inl ⟨by rfl, ?_⟩) ?_ ?_
                rotate_left
                · intro w'
                  go_simp
                  with_reducible rfl
                rotate_left
                · (try simp only [Act.put, List.setIfInBounds_toArray, List.set_cons_zero, List.set_cons_succ, i64_w, i32_w])
                  rfl
                simp only [hwk]
                refine pure_ (i := 11) (N := (some 167)) (v := ?_) (a' := ?_) #[true, true, true, false, true, true, true, true, true, true, true, true, false, false, false, false, false, false, false, false, false, false, false, false, false, false, false, false, false, false] rfl rfl (by kernel_rfl) (fun _ _ _ h => h) (Or.inl ⟨by rfl, ?_⟩) ?_ ?_
                rotate_left
                · intro w'
                  go_simp
                  with_reducible rfl
                rotate_left
                · (try simp only [Act.put, List.setIfInBounds_toArray, List.set_cons_zero, List.set_cons_succ, i64_w, i32_w])
                  rfl
                refine one_ (i := 3) (N := (some 159)) #[true, true, true, true, true, true, true, true, true, true, true, true, false, false, false, false, false, false, false, false, false, false, false, false, false, false, false, false, false, false] rfl rfl (by kernel_rfl) (by decide) (fun K hK => ?_)
                refine Kd.R_lit_step k30 (w0 := wS) wS.heap.size 30 (by rfl) (N := 159) rfl (xs := [rv]) (inner := [.int .i64 rv.f0, .int .i64 rv.f1, .int .i64 rv.f2]) (ok := fun _ => True) (okp := fun _ => True) ?lr ?lp (fun _ h => h) trivial (Below.refl _ _) (Nat.le_refl _) (by simp) ?_
                case lr => first | (go_simp; done) | (go_simp; rfl)
                case lp => exact (Reps.none _ _).snoc (k30_mkM _ _ _ rv) rfl
                intro v1 wL ho hb hg_ hnew_
                clear hg_ hnew_
                obtain ⟨A3, c3, ee⟩ := Kd.R_slice ho
                subst ee
                have n_HB := Aside0.mk (below_step HB.out hb); have n_HRr := Aside0.mk (Kd.R_below HRr.out hb); clear HB HRr; have HB := n_HB; clear n_HB; have HRr := n_HRr; clear n_HRr
                have HLT3 := Aside0.mk ho
                clear hHeld
                have hHeld := hb
                clear hb ho
                refine hK.out _ _ hHeld (fun _ => ?_)
                clear hK K
                refine norm_ (a' := ?_) ?_ ?_
                rotate_left
                · show Act.put _ (some 159) _ = _
                  (try simp only [Act.put, List.setIfInBounds_toArray, List.set_cons_zero, List.set_cons_succ, i64_w, i32_w])
                  rfl
                refine one_ (i := 12) (N := (some 168)) #[true, true, true, true, true, true, true, true, true, true, true, true, true, false, false, false, false, false, false, false, false, false, false, false, false, false, false, false, false, false] rfl rfl (by kernel_rfl) (by decide) (fun K hK => ?_)
                refine goes_ Try.func21 (by kernel_rfl) rfl #[.slice A3 1 c3, .slice (if cr = k then Ar else Option.map (fun x => x.add (k * 3)) Ar) 1 (cr - k)] (by rfl) rfl rfl (by (try simp only [List.map_toArray, List.map_cons, List.map_nil]); first | done | rfl | (simp only [List.length_drop, List.length_take]; rfl)) ?_
                have hd := Kd.C_take (Kd.C_drop (c := cr) (Kd.R_reads' HRr.out).2.2 (Nat.le_of_lt hk) LCr.out) (m := 1) (by rw [List.length_drop]; omega)
                rw [show (ds2.drop k).take 1 = [ds2[k]] by rw [List.drop_eq_getElem_cons hk]; rfl] at hd
                refine (readings_same A3 c3 [rv] _ (cr - k) [ds2[k]] wL (by rw [ER.out]; rfl) (by simp) (Kd.R_reads' HLT3.out).2.2 (Kd.R_reads' HLT3.out).2.1 hd (by show 1 ≤ cr - k; omega)).mono ?_
                rintro e w5 ⟨rfl, hb⟩
                refine ⟨_, rfl, ?_⟩
                have hh := below_step hHeld hb; clear hHeld; have hHeld := hh; clear hh
                have n_HB := Aside0.mk (below_step HB.out hb); have n_HRr := Aside0.mk (Kd.R_below HRr.out hb); clear HB HRr; have HB := n_HB; clear n_HB; have HRr := n_HRr; clear n_HRr
                clear hb hd
                refine hK.out _ _ hHeld (fun _ => ?_)
                clear hK K
                refine norm_ (a' := ?_) ?_ ?_
                rotate_left
                · show Act.put _ (some 168) _ = _
                  (try simp only [Act.put, List.setIfInBounds_toArray, List.set_cons_zero, List.set_cons_succ, i64_w, i32_w])
                  rfl
                refine pure_ (i := 13) (N := (some 169)) (v := ?_) (a' := ?_) #[true, true, true, true, true, true, true, true, true, true, true, true, true, true, false, false, false, false, false, false, false, false, false, false, false, false, false, false, false, false] rfl rfl (by kernel_rfl) (fun _ _ _ h => h) (Or.inl ⟨by rfl, ?_⟩) ?_ ?_
                rotate_left
                · intro w'
                  go_simp
                  with_reducible rfl
                rotate_left
                · (try simp only [Act.put, List.setIfInBounds_toArray, List.set_cons_zero, List.set_cons_succ, i64_w, i32_w])
                  rfl
                refine pure_ (i := 14) (N := (some 170)) (v := ?_) (a' := ?_) #[true, true, true, true, true, true, true, true, true, true, true, true, true, true, true, false, false, false, false, false, false, false, false, false, false, false, false, false, false, false] rfl rfl (by kernel_rfl) (fun _ _ _ h => h) (Or.inl ⟨by rfl, ?_⟩) ?_ ?_
                rotate_left
                · intro w'
                  go_simp
                  with_reducible rfl
                rotate_left
                · (try simp only [Act.put, List.setIfInBounds_toArray, List.set_cons_zero, List.set_cons_succ, i64_w, i32_w])
                  rfl
                refine pure_ (i := 15) (N := (some 171)) (v := ?_) (a' := ?_) #[true, true, true, true, true, true, true, true, true, true, true, true, true, true, true, true, false, false, false, false, false, false, false, false, false, false, false, false, false, false] rfl rfl (by kernel_rfl) (fun _ _ _ h => h) (Or.inl ⟨by rfl, ?_⟩) ?_ ?_
                rotate_left
                · intro w'
                  go_simp
                  with_reducible rfl
                rotate_left
                · (try simp only [Act.put, List.setIfInBounds_toArray, List.set_cons_zero, List.set_cons_succ, i64_w, i32_w])
                  rfl
                refine pure_ (i := 16) (N := (some 172)) (v := ?_) (a' := ?_) #[true, true, true, true, true, true, true, true, true, true, true, true, true, true, true, true, true, false, false, false, false, false, false, false, false, false, false, false, false, false] rfl rfl (by kernel_rfl) (fun _ _ _ h => h) (Or.inl ⟨by rfl, ?_⟩) ?_ ?_
                rotate_left
                · intro w'
                  go_simp
                  with_reducible rfl
                rotate_left
                · (try simp only [Act.put, List.setIfInBounds_toArray, List.set_cons_zero, List.set_cons_succ, i64_w, i32_w])
                  rfl
                refine pure_ (i := 17) (N := (some 173)) (v := ?_) (a' := ?_) #[true, true, true, true, true, true, true, true, true, true, true, true, true, true, true, true, true, true, false, false, false, false, false, false, false, false, false, false, false, false] rfl rfl (by kernel_rfl) (fun _ _ _ h => h) (Or.inl ⟨by rfl, ?_⟩) ?_ ?_
                rotate_left
                · intro w'
                  go_simp
                  with_reducible rfl
                rotate_left
                · (try simp only [Act.put, List.setIfInBounds_toArray, List.set_cons_zero, List.set_cons_succ, i64_w, i32_w])
                  rfl
                refine pure_ (i := 18) (N := some 174) (v := undef) #[true, true, true, true, true, true, true, true, true, true, true, true, true, true, true, true, true, true, true, false, false, false, false, false, false, false, false, false, false, false] rfl rfl (by kernel_rfl) (fun _ _ _ h => h) (Or.inr ⟨by rfl, rfl⟩) rfl ?_
                refine norm_ (a' := ?_) ?_ ?_
                rotate_left
                · show Act.put _ (some 174) _ = _
                  (try simp only [Act.put, List.setIfInBounds_toArray, List.set_cons_zero, List.set_cons_succ, i64_w, i32_w])
                  rfl
                refine pure_ (i := 19) (N := some 175) (v := undef) #[true, true, true, true, true, true, true, true, true, true, true, true, true, true, true, true, true, true, true, true, false, false, false, false, false, false, false, false, false, false] rfl rfl (by kernel_rfl) (fun _ _ _ h => h) (Or.inr ⟨by rfl, rfl⟩) rfl ?_
                refine norm_ (a' := ?_) ?_ ?_
                rotate_left
                · show Act.put _ (some 175) _ = _
                  (try simp only [Act.put, List.setIfInBounds_toArray, List.set_cons_zero, List.set_cons_succ, i64_w, i32_w])
                  rfl
                refine pure_ (i := 20) (N := some 176) (v := undef) #[true, true, true, true, true, true, true, true, true, true, true, true, true, true, true, true, true, true, true, true, true, false, false, false, false, false, false, false, false, false] rfl rfl (by kernel_rfl) (fun _ _ _ h => h) (Or.inr ⟨by rfl, rfl⟩) rfl ?_
                refine norm_ (a' := ?_) ?_ ?_
                rotate_left
                · show Act.put _ (some 176) _ = _
                  (try simp only [Act.put, List.setIfInBounds_toArray, List.set_cons_zero, List.set_cons_succ, i64_w, i32_w])
                  rfl
                refine pure_ (i := 21) (N := some 177) (v := undef) #[true, true, true, true, true, true, true, true, true, true, true, true, true, true, true, true, true, true, true, true, true, true, false, false, false, false, false, false, false, false] rfl rfl (by kernel_rfl) (fun _ _ _ h => h) (Or.inr ⟨by rfl, rfl⟩) rfl ?_
                refine norm_ (a' := ?_) ?_ ?_
                rotate_left
                · show Act.put _ (some 177) _ = _
                  (try simp only [Act.put, List.setIfInBounds_toArray, List.set_cons_zero, List.set_cons_succ, i64_w, i32_w])
                  rfl
                refine pure_ (i := 22) (N := some 178) (v := undef) #[true, true, true, true, true, true, true, true, true, true, true, true, true, true, true, true, true, true, true, true, true, true, true, false, false, false, false, false, false, false] rfl rfl (by kernel_rfl) (fun _ _ _ h => h) (Or.inr ⟨by rfl, rfl⟩) rfl ?_
                refine norm_ (a' := ?_) ?_ ?_
                rotate_left
                · show Act.put _ (some 178) _ = _
                  (try simp only [Act.put, List.setIfInBounds_toArray, List.set_cons_zero, List.set_cons_succ, i64_w, i32_w])
                  rfl
                refine pure_ (i := 23) (N := some 179) (v := undef) #[true, true, true, true, true, true, true, true, true, true, true, true, true, true, true, true, true, true, true, true, true, true, true, true, false, false, false, false, false, false] rfl rfl (by kernel_rfl) (fun _ _ _ h => h) (Or.inr ⟨by rfl, rfl⟩) rfl ?_
                refine norm_ (a' := ?_) ?_ ?_
                rotate_left
                · show Act.put _ (some 179) _ = _
                  (try simp only [Act.put, List.setIfInBounds_toArray, List.set_cons_zero, List.set_cons_succ, i64_w, i32_w])
                  rfl
                refine pure_ (i := 24) (N := some 180) (v := undef) #[true, true, true, true, true, true, true, true, true, true, true, true, true, true, true, true, true, true, true, true, true, true, true, true, true, false, false, false, false, false] rfl rfl (by kernel_rfl) (fun _ _ _ h => h) (Or.inr ⟨by rfl, rfl⟩) rfl ?_
                refine norm_ (a' := ?_) ?_ ?_
                rotate_left
                · show Act.put _ (some 180) _ = _
                  (try simp only [Act.put, List.setIfInBounds_toArray, List.set_cons_zero, List.set_cons_succ, i64_w, i32_w])
                  rfl
                refine pure_ (i := 25) (N := some 181) (v := undef) #[true, true, true, true, true, true, true, true, true, true, true, true, true, true, true, true, true, true, true, true, true, true, true, true, true, true, false, false, false, false] rfl rfl (by kernel_rfl) (fun _ _ _ h => h) (Or.inr ⟨by rfl, rfl⟩) rfl ?_
                refine norm_ (a' := ?_) ?_ ?_
                rotate_left
                · show Act.put _ (some 181) _ = _
                  (try simp only [Act.put, List.setIfInBounds_toArray, List.set_cons_zero, List.set_cons_succ, i64_w, i32_w])
                  rfl
                refine pure_ (i := 26) (N := some 182) (v := undef) #[true, true, true, true, true, true, true, true, true, true, true, true, true, true, true, true, true, true, true, true, true, true, true, true, true, true, true, false, false, false] rfl rfl (by kernel_rfl) (fun _ _ _ h => h) (Or.inr ⟨by rfl, rfl⟩) rfl ?_
                refine norm_ (a' := ?_) ?_ ?_
                rotate_left
                · show Act.put _ (some 182) _ = _
                  (try simp only [Act.put, List.setIfInBounds_toArray, List.set_cons_zero, List.set_cons_succ, i64_w, i32_w])
                  rfl
                refine pure_ (i := 27) (N := some 183) (v := undef) #[true, true, true, true, true, true, true, true, true, true, true, true, true, true, true, true, true, true, true, true, true, true, true, true, true, true, true, true, false, false] rfl rfl (by kernel_rfl) (fun _ _ _ h => h) (Or.inr ⟨by rfl, rfl⟩) rfl ?_
                refine norm_ (a' := ?_) ?_ ?_
                rotate_left
                · show Act.put _ (some 183) _ = _
                  (try simp only [Act.put, List.setIfInBounds_toArray, List.set_cons_zero, List.set_cons_succ, i64_w, i32_w])
                  rfl
                refine pure_ (i := 28) (N := (some 184)) (v := ?_) (a' := ?_) #[true, true, true, true, true, true, true, true, true, true, true, true, true, true, true, true, true, true, true, true, true, true, true, true, true, true, true, true, true, false] rfl rfl (by kernel_rfl) (fun _ _ _ h => h) (Or.inl ⟨by rfl, ?_⟩) ?_ ?_
                rotate_left
                · intro w'
                  go_simp
                  with_reducible rfl
                rotate_left
                · (try simp only [Act.put, List.setIfInBounds_toArray, List.set_cons_zero, List.set_cons_succ, i64_w, i32_w])
                  rfl
                refine pure_ (i := 29) (N := (some 185)) (v := ?_) (a' := ?_) #[true, true, true, true, true, true, true, true, true, true, true, true, true, true, true, true, true, true, true, true, true, true, true, true, true, true, true, true, true, true] rfl rfl (by kernel_rfl) (fun _ _ _ h => h) (Or.inl ⟨by rfl, ?_⟩) ?_ ?_
                rotate_left
                · intro w'
                  go_simp
                  with_reducible rfl
                rotate_left
                · (try simp only [Act.put, List.setIfInBounds_toArray, List.set_cons_zero, List.set_cons_succ, i64_w, i32_w])
                  rfl
                refine done_ (by kernel_rfl) ?_
                go_wp2
                go_meet
                exact ⟨rfl, ⟨below_step HD.out hHeld⟩⟩
            · subst ek; subst eb; subst fk; subst fb; clear CK CN
              have ER := Aside0.mk er; clear er
              have HD := Aside0.mk (Below.refl wc.heap.size wc)
              have h0k : (0 : Int) ≤ (k : Int) := by omega
              have h01k : (0 : Int) ≤ (k : Int) + 1 := by omega
              have hkl : (k : Int) < (ds2.length : Int) := by omega
              have hkc : (k : Int) + 1 ≤ (cr : Int) := by have := LCr.out; omega
              have hwk : RowKit.wrap64 ((k : Int) + 1) = (k : Int) + 1 := by have := HL2.out.1; unfold RowKit.wrap64; omega
              have h0n : (0 : Int) ≤ (n : Int) := by omega
              have hnl : (n : Int) < (es2.length : Int) := by omega
              obtain ⟨ad5, ea, i0, i1, i2, i3, i4⟩ := at_T45 (Kd.R_reads' HRo.out).2.2 (n : Int) (by omega) (by omega)
              subst ea
              clear i0 i1 i2 i3 i4
              have hry : rd_T45 es2 (n : Int) = es2[n] := by simp [rd_T45, hn]
              generalize es2[n] = y at hry fr
              have e0 : y.f0 = ov.f0 := by rw [fr]; rfl
              have e1 : y.f1 = ov.f1 := by rw [fr]; rfl
              have e2 : y.f2 = ov.f2 := by rw [fr]; rfl
              have e3 : y.f3 = ov.f3 := by rw [fr]; rfl
              have e4 : y.f4 = ov.f4 := by rw [fr]; rfl
              clear fr
              as_aux_lemma =>
                have n_HB := Aside0.mk (below_drew1 HB.out); have n_HD := Aside0.mk (below_drew1 HD.out); have n_BS := Aside0.mk (blk_drew BS.out); have n_HRr := Aside0.mk (Kd.R_drew HRr.out); have n_HRo := Aside0.mk (Kd.R_drew HRo.out); have n_BR := Aside0.mk (blk_drew BR.out); have n_BO := Aside0.mk (blk_drew BO.out); clear HB HD BS HRr HRo BR BO; have HB := n_HB; clear n_HB; have HD := n_HD; clear n_HD; have BS := n_BS; clear n_BS; have HRr := n_HRr; clear n_HRr; have HRo := n_HRo; clear n_HRo; have BR := n_BR; clear n_BR; have BO := n_BO; clear n_BO
                refine start_ (n := 30) (S := fun w' => Below wc.drew.heap.size wc.drew w') (ds := []) #[false, false, false, false, false, false, false, false, false, false, false, false, false, false, false, false, false, false, false, false, false, false, false, false, false, false, false, false, false, false] (by kernel_rfl) rfl rfl (Below.refl _ _) (fun hHeld => ?_)
                generalize wc.drew = wS at HB HD BS HRr HRo BR BO hHeld ⊢
                have BS1 := BS
                have HRr1 := HRr
                have HRo1 := HRo
                have BR1 := BR
                have BO1 := BO
                clear BS HRo BR BO
                refine pure_ (i := 0) (N := (some 156)) (v := ?_) (a' := ?_) #[true, false, false, false, false, false, false, false, false, false, false, false, false, false, false, false, false, false, false, false, false, false, false, false, false, false, false, false, false, false] rfl rfl (by kernel_rfl) (fun _ _ _ h => h) (Or.inl ⟨by rfl, ?_⟩) ?_ ?_
                rotate_left
                · intro w'
                  go_simp
                  with_reducible rfl
                rotate_left
                · (try simp only [Act.put, List.setIfInBounds_toArray, List.set_cons_zero, List.set_cons_succ, i64_w, i32_w])
                  rfl
                refine pure_ (i := 1) (N := (some 157)) (v := ?_) (a' := ?_) #[true, true, false, false, false, false, false, false, false, false, false, false, false, false, false, false, false, false, false, false, false, false, false, false, false, false, false, false, false, false] rfl rfl (by kernel_rfl) (fun _ _ _ h => h) (Or.inl ⟨by rfl, ?_⟩) ?_ ?_
                rotate_left
                · intro w'
                  go_simp
                  with_reducible rfl
                rotate_left
                · (try simp only [Act.put, List.setIfInBounds_toArray, List.set_cons_zero, List.set_cons_succ, i64_w, i32_w])
                  rfl
                refine take_ (i := 2) (N := some 158) (v := ?_) (a' := ?_) #[true, true, true, false, false, false, false, false, false, false, false, false, false, false, false, false, false, false, false, false, false, false, false, false, false, false, false, false, false, false] rfl rfl (by kernel_rfl) (fun _ _ _ h => h) (Or.inl ⟨by rfl, ?_⟩) hHeld ?_ ?_
                rotate_left
                · intro w' s0
                  have q0 : World.cell? w' ⟨gr, 0, none⟩ = some (.int .i64 rv.f0) := (blk_cell (blk_below BR1.out s0) 0).trans rfl
                  have q1 : World.cell? w' ⟨gr, 1, none⟩ = some (.int .i64 rv.f1) := (blk_cell (blk_below BR1.out s0) 1).trans rfl
                  have q2 : World.cell? w' ⟨gr, 2, none⟩ = some (.int .i64 rv.f2) := (blk_cell (blk_below BR1.out s0) 2).trans rfl
                  go_simp
                  with_reducible rfl
                rotate_left
                · (try simp only [Act.put, List.setIfInBounds_toArray, List.set_cons_zero, List.set_cons_succ, i64_w, i32_w])
                  rfl
                refine pure_ (i := 4) (N := (some 160)) (v := ?_) (a' := ?_) #[true, true, true, false, true, false, false, false, false, false, false, false, false, false, false, false, false, false, false, false, false, false, false, false, false, false, false, false, false, false] rfl rfl (by kernel_rfl) (fun _ _ _ h => h) (Or.inl ⟨by rfl, ?_⟩) ?_ ?_
                rotate_left
                · intro w'
                  go_simp
                  with_reducible rfl
                rotate_left
                · (try simp only [Act.put, List.setIfInBounds_toArray, List.set_cons_zero, List.set_cons_succ, i64_w, i32_w])
                  rfl
                refine pure_ (i := 5) (N := (some 161)) (v := ?_) (a' := ?_) #[true, true, true, false, true, true, false, false, false, false, false, false, false, false, false, false, false, false, false, false, false, false, false, false, false, false, false, false, false, false] rfl rfl (by kernel_rfl) (fun _ _ _ h => h) (Or.inl ⟨by rfl, ?_⟩) ?_ ?_
                rotate_left
                · intro w'
                  go_simp
                  with_reducible rfl
                rotate_left
                · (try simp only [Act.put, List.setIfInBounds_toArray, List.set_cons_zero, List.set_cons_succ, i64_w, i32_w])
                  rfl
                refine pure_ (i := 6) (N := (some 162)) (v := ?_) (a' := ?_) #[true, true, true, false, true, true, true, false, false, false, false, false, false, false, false, false, false, false, false, false, false, false, false, false, false, false, false, false, false, false] rfl rfl (by kernel_rfl) (fun _ _ _ h => h) (Or.inl ⟨by rfl, ?_⟩) ?_ ?_
                rotate_left
                · intro w'
                  go_simp
                  with_reducible rfl
                rotate_left
                · (try simp only [Act.put, List.setIfInBounds_toArray, List.set_cons_zero, List.set_cons_succ, i64_w, i32_w])
                  rfl
                refine take_ (i := 7) (N := some 163) (v := ?_) (a' := ?_) #[true, true, true, false, true, true, true, true, false, false, false, false, false, false, false, false, false, false, false, false, false, false, false, false, false, false, false, false, false, false] rfl rfl (by kernel_rfl) (fun _ _ _ h => h) (Or.inl ⟨by rfl, ?_⟩) hHeld ?_ ?_
                rotate_left
                · intro w' s0
                  have q0 : World.cell? w' ⟨gv, 0, none⟩ = some (.slice Ar ds2.length cr) := (blk_cell (blk_below BS1.out s0) 0).trans rfl
                  have q1 : World.cell? w' ⟨gv, 1, none⟩ = some (.slice (some ad5) es2.length co) := (blk_cell (blk_below BS1.out s0) 1).trans rfl
                  go_simp
                  with_reducible rfl
                rotate_left
                · (try simp only [Act.put, List.setIfInBounds_toArray, List.set_cons_zero, List.set_cons_succ, i64_w, i32_w])
                  rfl
                refine pure_ (i := 8) (N := (some 164)) (v := ?_) (a' := ?_) #[true, true, true, false, true, true, true, true, true, false, false, false, false, false, false, false, false, false, false, false, false, false, false, false, false, false, false, false, false, false] rfl rfl (by kernel_rfl) (fun _ _ _ h => h) (Or.inl ⟨by rfl, ?_⟩) ?_ ?_
                rotate_left
                · intro w'
                  go_simp
                  with_reducible rfl
                rotate_left
                · (try simp only [Act.put, List.setIfInBounds_toArray, List.set_cons_zero, List.set_cons_succ, i64_w, i32_w])
                  rfl
                refine pure_ (i := 9) (N := (some 165)) (v := ?_) (a' := ?_) #[true, true, true, false, true, true, true, true, true, true, false, false, false, false, false, false, false, false, false, false, false, false, false, false, false, false, false, false, false, false] rfl rfl (by kernel_rfl) (fun _ _ _ h => h) (Or.inl ⟨by rfl, ?_⟩) ?_ ?_
                rotate_left
                · intro w'
                  go_simp
                  with_reducible rfl
                rotate_left
                · (try simp only [Act.put, List.setIfInBounds_toArray, List.set_cons_zero, List.set_cons_succ, i64_w, i32_w])
                  rfl
                refine pure_ (i := 10) (N := (some 166)) (v := ?_) (a' := ?_) #[true, true, true, false, true, true, true, true, true, true, true, false, false, false, false, false, false, false, false, false, false, false, false, false, false, false, false, false, false, false] rfl rfl (by kernel_rfl) (fun _ _ _ h => h) (Or.inl ⟨by rfl, ?_⟩) ?_ ?_
                rotate_left
                · intro w'
                  go_simp
                  with_reducible rfl
                rotate_left
                · (try simp only [Act.put, List.setIfInBounds_toArray, List.set_cons_zero, List.set_cons_succ, i64_w, i32_w])
                  rfl
                simp only [hwk]
                refine pure_ (i := 11) (N := (some 167)) (v := ?_) (a' := ?_) #[true, true, true, false, true, true, true, true, true, true, true, true, false, false, false, false, false, false, false, false, false, false, false, false, false, false, false, false, false, false] rfl rfl (by kernel_rfl) (fun _ _ _ h => h) (Or.inl ⟨by rfl, ?_⟩) ?_ ?_
                rotate_left
                · intro w'
                  go_simp
                  with_reducible rfl
                rotate_left
                · (try simp only [Act.put, List.setIfInBounds_toArray, List.set_cons_zero, List.set_cons_succ, i64_w, i32_w])
                  rfl
                refine one_ (i := 3) (N := (some 159)) #[true, true, true, true, true, true, true, true, true, true, true, true, false, false, false, false, false, false, false, false, false, false, false, false, false, false, false, false, false, false] rfl rfl (by kernel_rfl) (by decide) (fun K hK => ?_)
                refine Kd.R_lit_step k30 (w0 := wS) wS.heap.size 30 (by rfl) (N := 159) rfl (xs := [rv]) (inner := [.int .i64 rv.f0, .int .i64 rv.f1, .int .i64 rv.f2]) (ok := fun _ => True) (okp := fun _ => True) ?lr ?lp (fun _ h => h) trivial (Below.refl _ _) (Nat.le_refl _) (by simp) ?_
                case lr => first | (go_simp; done) | (go_simp; rfl)
                case lp => exact (Reps.none _ _).snoc (k30_mkM _ _ _ rv) rfl
                intro v1 wL ho hb hg_ hnew_
                clear hg_ hnew_
                obtain ⟨A3, c3, ee⟩ := Kd.R_slice ho
                subst ee
                have n_HB := Aside0.mk (below_step HB.out hb); have n_HRr := Aside0.mk (Kd.R_below HRr.out hb); clear HB HRr; have HB := n_HB; clear n_HB; have HRr := n_HRr; clear n_HRr
                have HLT3 := Aside0.mk ho
                clear hHeld
                have hHeld := hb
                clear hb ho
                refine hK.out _ _ hHeld (fun _ => ?_)
                clear hK K
                refine norm_ (a' := ?_) ?_ ?_
                rotate_left
                · show Act.put _ (some 159) _ = _
                  (try simp only [Act.put, List.setIfInBounds_toArray, List.set_cons_zero, List.set_cons_succ, i64_w, i32_w])
                  rfl
                refine one_ (i := 12) (N := (some 168)) #[true, true, true, true, true, true, true, true, true, true, true, true, true, false, false, false, false, false, false, false, false, false, false, false, false, false, false, false, false, false] rfl rfl (by kernel_rfl) (by decide) (fun K hK => ?_)
                refine goes_ Try.func21 (by kernel_rfl) rfl #[.slice A3 1 c3, .slice (if cr = k then Ar else Option.map (fun x => x.add (k * 3)) Ar) 1 (cr - k)] (by rfl) rfl rfl (by (try simp only [List.map_toArray, List.map_cons, List.map_nil]); first | done | rfl | (simp only [List.length_drop, List.length_take]; rfl)) ?_
                have hd := Kd.C_take (Kd.C_drop (c := cr) (Kd.R_reads' HRr.out).2.2 (Nat.le_of_lt hk) LCr.out) (m := 1) (by rw [List.length_drop]; omega)
                rw [show (ds2.drop k).take 1 = [ds2[k]] by rw [List.drop_eq_getElem_cons hk]; rfl] at hd
                refine (readings_same A3 c3 [rv] _ (cr - k) [ds2[k]] wL (by rw [ER.out]; rfl) (by simp) (Kd.R_reads' HLT3.out).2.2 (Kd.R_reads' HLT3.out).2.1 hd (by show 1 ≤ cr - k; omega)).mono ?_
                rintro e w5 ⟨rfl, hb⟩
                refine ⟨_, rfl, ?_⟩
                have hh := below_step hHeld hb; clear hHeld; have hHeld := hh; clear hh
                have n_HB := Aside0.mk (below_step HB.out hb); have n_HRr := Aside0.mk (Kd.R_below HRr.out hb); clear HB HRr; have HB := n_HB; clear n_HB; have HRr := n_HRr; clear n_HRr
                clear hb hd
                refine hK.out _ _ hHeld (fun _ => ?_)
                clear hK K
                refine norm_ (a' := ?_) ?_ ?_
                rotate_left
                · show Act.put _ (some 168) _ = _
                  (try simp only [Act.put, List.setIfInBounds_toArray, List.set_cons_zero, List.set_cons_succ, i64_w, i32_w])
                  rfl
                refine pure_ (i := 13) (N := (some 169)) (v := ?_) (a' := ?_) #[true, true, true, true, true, true, true, true, true, true, true, true, true, true, false, false, false, false, false, false, false, false, false, false, false, false, false, false, false, false] rfl rfl (by kernel_rfl) (fun _ _ _ h => h) (Or.inl ⟨by rfl, ?_⟩) ?_ ?_
                rotate_left
                · intro w'
                  go_simp
                  with_reducible rfl
                rotate_left
                · (try simp only [Act.put, List.setIfInBounds_toArray, List.set_cons_zero, List.set_cons_succ, i64_w, i32_w])
                  rfl
                refine pure_ (i := 14) (N := (some 170)) (v := ?_) (a' := ?_) #[true, true, true, true, true, true, true, true, true, true, true, true, true, true, true, false, false, false, false, false, false, false, false, false, false, false, false, false, false, false] rfl rfl (by kernel_rfl) (fun _ _ _ h => h) (Or.inl ⟨by rfl, ?_⟩) ?_ ?_
                rotate_left
                · intro w'
                  go_simp
                  with_reducible rfl
                rotate_left
                · (try simp only [Act.put, List.setIfInBounds_toArray, List.set_cons_zero, List.set_cons_succ, i64_w, i32_w])
                  rfl
                refine pure_ (i := 15) (N := (some 171)) (v := ?_) (a' := ?_) #[true, true, true, true, true, true, true, true, true, true, true, true, true, true, true, true, false, false, false, false, false, false, false, false, false, false, false, false, false, false] rfl rfl (by kernel_rfl) (fun _ _ _ h => h) (Or.inl ⟨by rfl, ?_⟩) ?_ ?_
                rotate_left
                · intro w'
                  go_simp
                  with_reducible rfl
                rotate_left
                · (try simp only [Act.put, List.setIfInBounds_toArray, List.set_cons_zero, List.set_cons_succ, i64_w, i32_w])
                  rfl
                refine pure_ (i := 16) (N := (some 172)) (v := ?_) (a' := ?_) #[true, true, true, true, true, true, true, true, true, true, true, true, true, true, true, true, true, false, false, false, false, false, false, false, false, false, false, false, false, false] rfl rfl (by kernel_rfl) (fun _ _ _ h => h) (Or.inl ⟨by rfl, ?_⟩) ?_ ?_
                rotate_left
                · intro w'
                  go_simp
                  with_reducible rfl
                rotate_left
                · (try simp only [Act.put, List.setIfInBounds_toArray, List.set_cons_zero, List.set_cons_succ, i64_w, i32_w])
                  rfl
                refine pure_ (i := 17) (N := (some 173)) (v := ?_) (a' := ?_) #[true, true, true, true, true, true, true, true, true, true, true, true, true, true, true, true, true, true, false, false, false, false, false, false, false, false, false, false, false, false] rfl rfl (by kernel_rfl) (fun _ _ _ h => h) (Or.inl ⟨by rfl, ?_⟩) ?_ ?_
                rotate_left
                · intro w'
                  go_simp
                  with_reducible rfl
                rotate_left
                · (try simp only [Act.put, List.setIfInBounds_toArray, List.set_cons_zero, List.set_cons_succ, i64_w, i32_w])
                  rfl
                refine take_ (i := 18) (N := some 174) (v := ?_) (a' := ?_) #[true, true, true, true, true, true, true, true, true, true, true, true, true, true, true, true, true, true, true, false, false, false, false, false, false, false, false, false, false, false] rfl rfl (by kernel_rfl) (fun _ _ _ h => h) (Or.inl ⟨by rfl, ?_⟩) hHeld ?_ ?_
                rotate_left
                · intro w' s0
                  have q0 : World.cell? w' ⟨go, 0, none⟩ = some (.int .i64 ov.f0) := (blk_cell (blk_below BO1.out s0) 0).trans rfl
                  have q1 : World.cell? w' ⟨go, 1, none⟩ = some (.int .i64 ov.f1) := (blk_cell (blk_below BO1.out s0) 1).trans rfl
                  have q2 : World.cell? w' ⟨go, 2, none⟩ = some (.int .i64 ov.f2) := (blk_cell (blk_below BO1.out s0) 2).trans rfl
                  have q3 : World.cell? w' ⟨go, 3, none⟩ = some (.int .i64 ov.f3) := (blk_cell (blk_below BO1.out s0) 3).trans rfl
                  have q4 : World.cell? w' ⟨go, 4, none⟩ = some (.bool ov.f4) := (blk_cell (blk_below BO1.out s0) 4).trans rfl
                  go_simp
                  with_reducible rfl
                rotate_left
                · (try simp only [Act.put, List.setIfInBounds_toArray, List.set_cons_zero, List.set_cons_succ, i64_w, i32_w])
                  rfl
                refine pure_ (i := 19) (N := (some 175)) (v := ?_) (a' := ?_) #[true, true, true, true, true, true, true, true, true, true, true, true, true, true, true, true, true, true, true, true, false, false, false, false, false, false, false, false, false, false] rfl rfl (by kernel_rfl) (fun _ _ _ h => h) (Or.inl ⟨by rfl, ?_⟩) ?_ ?_
                rotate_left
                · intro w'
                  go_simp
                  with_reducible rfl
                rotate_left
                · (try simp only [Act.put, List.setIfInBounds_toArray, List.set_cons_zero, List.set_cons_succ, i64_w, i32_w])
                  rfl
                refine pure_ (i := 20) (N := (some 176)) (v := ?_) (a' := ?_) #[true, true, true, true, true, true, true, true, true, true, true, true, true, true, true, true, true, true, true, true, true, false, false, false, false, false, false, false, false, false] rfl rfl (by kernel_rfl) (fun _ _ _ h => h) (Or.inl ⟨by rfl, ?_⟩) ?_ ?_
                rotate_left
                · intro w'
                  go_simp
                  with_reducible rfl
                rotate_left
                · (try simp only [Act.put, List.setIfInBounds_toArray, List.set_cons_zero, List.set_cons_succ, i64_w, i32_w])
                  rfl
                refine pure_ (i := 21) (N := (some 177)) (v := ?_) (a' := ?_) #[true, true, true, true, true, true, true, true, true, true, true, true, true, true, true, true, true, true, true, true, true, true, false, false, false, false, false, false, false, false] rfl rfl (by kernel_rfl) (fun _ _ _ h => h) (Or.inl ⟨by rfl, ?_⟩) ?_ ?_
                rotate_left
                · intro w'
                  go_simp
                  with_reducible rfl
                rotate_left
                · (try simp only [Act.put, List.setIfInBounds_toArray, List.set_cons_zero, List.set_cons_succ, i64_w, i32_w])
                  rfl
                refine take_ (i := 22) (N := some 178) (v := ?_) (a' := ?_) #[true, true, true, true, true, true, true, true, true, true, true, true, true, true, true, true, true, true, true, true, true, true, true, false, false, false, false, false, false, false] rfl rfl (by kernel_rfl) (fun _ _ _ h => h) (Or.inl ⟨by rfl, ?_⟩) hHeld ?_ ?_
                rotate_left
                · intro w' s0
                  have q0 : World.cell? w' ⟨gv, 0, none⟩ = some (.slice Ar ds2.length cr) := (blk_cell (blk_below BS1.out s0) 0).trans rfl
                  have q1 : World.cell? w' ⟨gv, 1, none⟩ = some (.slice (some ad5) es2.length co) := (blk_cell (blk_below BS1.out s0) 1).trans rfl
                  go_simp
                  with_reducible rfl
                rotate_left
                · (try simp only [Act.put, List.setIfInBounds_toArray, List.set_cons_zero, List.set_cons_succ, i64_w, i32_w])
                  rfl
                refine pure_ (i := 23) (N := (some 179)) (v := ?_) (a' := ?_) #[true, true, true, true, true, true, true, true, true, true, true, true, true, true, true, true, true, true, true, true, true, true, true, true, false, false, false, false, false, false] rfl rfl (by kernel_rfl) (fun _ _ _ h => h) (Or.inl ⟨by rfl, ?_⟩) ?_ ?_
                rotate_left
                · intro w'
                  go_simp
                  with_reducible rfl
                rotate_left
                · (try simp only [Act.put, List.setIfInBounds_toArray, List.set_cons_zero, List.set_cons_succ, i64_w, i32_w])
                  rfl
                refine pure_ (i := 24) (N := (some 180)) (v := ?_) (a' := ?_) #[true, true, true, true, true, true, true, true, true, true, true, true, true, true, true, true, true, true, true, true, true, true, true, true, true, false, false, false, false, false] rfl rfl (by kernel_rfl) (fun _ _ _ h => h) (Or.inl ⟨by rfl, ?_⟩) ?_ ?_
                rotate_left
                · intro w'
                  go_simp
                  with_reducible rfl
                rotate_left
                · (try simp only [Act.put, List.setIfInBounds_toArray, List.set_cons_zero, List.set_cons_succ, i64_w, i32_w])
                  rfl
                refine take_ (i := 25) (N := some 181) (v := ?_) (a' := ?_) #[true, true, true, true, true, true, true, true, true, true, true, true, true, true, true, true, true, true, true, true, true, true, true, true, true, true, false, false, false, false] rfl rfl (by kernel_rfl) (fun _ _ _ h => h) (Or.inl ⟨by rfl, ?_⟩) hHeld ?_ ?_
                rotate_left
                · intro w' s0
                  have ht := at_T45 (Kd.C_below (Kd.R_reads' HRo1.out).2.2 s0) (n : Int) (by omega) (by omega)
                  obtain ⟨ad6, ea, i0, i1, i2, i3, i4⟩ := ht
                  cases ea
                  rw [hry] at i0 i1 i2 i3 i4
                  simp only [Int.toNat_natCast] at i0 i1 i2 i3 i4
                  go_simp
                  with_reducible rfl
                rotate_left
                · (try simp only [Act.put, List.setIfInBounds_toArray, List.set_cons_zero, List.set_cons_succ, i64_w, i32_w])
                  rfl
                refine one_ (i := 26) (N := (some 182)) #[true, true, true, true, true, true, true, true, true, true, true, true, true, true, true, true, true, true, true, true, true, true, true, true, true, true, true, false, false, false] rfl rfl (by kernel_rfl) (by decide) (fun K hK => ?_)
                refine goes_ Try.func16 (by kernel_rfl) rfl #[.agg #[.int .i64 ov.f0, .int .i64 ov.f1, .int .i64 ov.f2, .int .i64 ov.f3, .bool ov.f4]] (by rfl) rfl rfl (by (try simp only [List.map_toArray, List.map_cons, List.map_nil]); first | done | rfl | (simp only [List.length_drop, List.length_take]; rfl)) ?_
                refine (quarrellaw12_own.calls _ _ _ _ _ ov.f0 ov.f1 ov.f2 ov.f3 ov.f4 _ rfl).mono ?_
                rintro e w7 ⟨rfl, hb⟩
                refine ⟨_, rfl, ?_⟩
                have hh := below_step hHeld hb; clear hHeld; have hHeld := hh; clear hh
                clear hb
                refine hK.out _ _ hHeld (fun _ => ?_)
                clear hK K
                refine norm_ (a' := ?_) ?_ ?_
                rotate_left
                · show Act.put _ (some 182) _ = _
                  (try simp only [Act.put, List.setIfInBounds_toArray, List.set_cons_zero, List.set_cons_succ, i64_w, i32_w])
                  rfl
                refine pure_ (i := 27) (N := (some 183)) (v := ?_) (a' := ?_) #[true, true, true, true, true, true, true, true, true, true, true, true, true, true, true, true, true, true, true, true, true, true, true, true, true, true, true, true, false, false] rfl rfl (by kernel_rfl) (fun _ _ _ h => h) (Or.inl ⟨by rfl, ?_⟩) ?_ ?_
                rotate_left
                · intro w'
                  go_simp
                  with_reducible rfl
                rotate_left
                · (try simp only [Act.put, List.setIfInBounds_toArray, List.set_cons_zero, List.set_cons_succ, i64_w, i32_w])
                  rfl
                refine pure_ (i := 28) (N := (some 184)) (v := ?_) (a' := ?_) #[true, true, true, true, true, true, true, true, true, true, true, true, true, true, true, true, true, true, true, true, true, true, true, true, true, true, true, true, true, false] rfl rfl (by kernel_rfl) (fun _ _ _ h => h) (Or.inl ⟨by rfl, ?_⟩) ?_ ?_
                rotate_left
                · intro w'
                  go_simp
                  with_reducible rfl
                rotate_left
                · (try simp only [Act.put, List.setIfInBounds_toArray, List.set_cons_zero, List.set_cons_succ, i64_w, i32_w])
                  rfl
                refine pure_ (i := 29) (N := (some 185)) (v := ?_) (a' := ?_) #[true, true, true, true, true, true, true, true, true, true, true, true, true, true, true, true, true, true, true, true, true, true, true, true, true, true, true, true, true, true] rfl rfl (by kernel_rfl) (fun _ _ _ h => h) (Or.inl ⟨by rfl, ?_⟩) ?_ ?_
                rotate_left
                · intro w'
                  go_simp
                  with_reducible rfl
                rotate_left
                · (try simp only [Act.put, List.setIfInBounds_toArray, List.set_cons_zero, List.set_cons_succ, i64_w, i32_w])
                  rfl
                refine done_ (by kernel_rfl) ?_
                go_wp2
                go_meet
                exact ⟨rfl, ⟨below_step HD.out hHeld⟩⟩
          case rest =>
            obtain ⟨hs, HWD⟩ := hcut
            subst hs
            clear BS HRr HRo LCr LCo BR BO CK CN
            have hb := HWD.out
            have n_HS := Aside0.mk (HS.out.below hb); have n_HV := Aside0.mk (HV.out.below hb); have n_HB := Aside0.mk (below_step HB.out hb); clear HS HV HB; have HS := n_HS; clear n_HS; have HV := n_HV; clear n_HV; have HB := n_HB; clear n_HB
            clear hb HWD
            obtain ⟨vr, vo, hg0, hge, hr, ho⟩ := HV.out
            obtain ⟨Ar, cr, er⟩ := Kd.R_slice hr
            obtain ⟨Ao, co, eo⟩ := Kd.R_slice ho
            subst er eo
            have BS := Aside0.mk hg0
            have HRr := Aside0.mk hr
            have HRo := Aside0.mk ho
            have LCr := Aside0.mk (Kd.R_reads' hr).2.1
            have LCo := Aside0.mk (Kd.R_reads' ho).2.1
            clear hg0 hge hr ho
            go_upto_region 35 with (fail)
            as_aux_lemma =>
              have n_HB := Aside0.mk (below_drew1 HB.out); have n_HS := Aside0.mk (IsR.below HS.out (below_drew (Below.refl _ _))); have n_HV := Aside0.mk (IsD.below HV.out (below_drew (Below.refl _ _))); have n_BS := Aside0.mk (blk_drew BS.out); have n_HRr := Aside0.mk (Kd.R_drew HRr.out); have n_HRo := Aside0.mk (Kd.R_drew HRo.out); clear HB HS HV BS HRr HRo; have HB := n_HB; clear n_HB; have HS := n_HS; clear n_HS; have HV := n_HV; clear n_HV; have BS := n_BS; clear n_BS; have HRr := n_HRr; clear n_HRr; have HRo := n_HRo; clear n_HRo
              refine start_ (n := 26) (S := fun w' => Below wc.drew.heap.size wc.drew w') (ds := []) #[false, false, false, false, false, false, false, false, false, false, false, false, false, false, false, false, false, false, false, false, false, false, false, false, false, false] (by kernel_rfl) rfl rfl (Below.refl _ _) (fun hHeld => ?_)
              generalize wc.drew = wS at HB HS HV BS HRr HRo hHeld ⊢
              have BS1 := BS
              refine pure_ (i := 0) (N := (some 186)) (v := ?_) (a' := ?_) #[true, false, false, false, false, false, false, false, false, false, false, false, false, false, false, false, false, false, false, false, false, false, false, false, false, false] rfl rfl (by kernel_rfl) (fun _ _ _ h => h) (Or.inl ⟨by rfl, ?_⟩) ?_ ?_
              rotate_left
              · intro w'
                go_simp
                with_reducible rfl
              rotate_left
              · (try simp only [Act.put, List.setIfInBounds_toArray, List.set_cons_zero, List.set_cons_succ, i64_w, i32_w])
                rfl
              refine pure_ (i := 2) (N := (some 188)) (v := ?_) (a' := ?_) #[true, false, true, false, false, false, false, false, false, false, false, false, false, false, false, false, false, false, false, false, false, false, false, false, false, false] rfl rfl (by kernel_rfl) (fun _ _ _ h => h) (Or.inl ⟨by rfl, ?_⟩) ?_ ?_
              rotate_left
              · intro w'
                go_simp
                with_reducible rfl
              rotate_left
              · (try simp only [Act.put, List.setIfInBounds_toArray, List.set_cons_zero, List.set_cons_succ, i64_w, i32_w])
                rfl
              refine pure_ (i := 3) (N := (some 189)) (v := ?_) (a' := ?_) #[true, false, true, true, false, false, false, false, false, false, false, false, false, false, false, false, false, false, false, false, false, false, false, false, false, false] rfl rfl (by kernel_rfl) (fun _ _ _ h => h) (Or.inl ⟨by rfl, ?_⟩) ?_ ?_
              rotate_left
              · intro w'
                go_simp
                with_reducible rfl
              rotate_left
              · (try simp only [Act.put, List.setIfInBounds_toArray, List.set_cons_zero, List.set_cons_succ, i64_w, i32_w])
                rfl
              refine pure_ (i := 4) (N := (some 190)) (v := ?_) (a' := ?_) #[true, false, true, true, true, false, false, false, false, false, false, false, false, false, false, false, false, false, false, false, false, false, false, false, false, false] rfl rfl (by kernel_rfl) (fun _ _ _ h => h) (Or.inl ⟨by rfl, ?_⟩) ?_ ?_
              rotate_left
              · intro w'
                go_simp
                with_reducible rfl
              rotate_left
              · (try simp only [Act.put, List.setIfInBounds_toArray, List.set_cons_zero, List.set_cons_succ, i64_w, i32_w])
                rfl
              refine take_ (i := 5) (N := some 191) (v := ?_) (a' := ?_) #[true, false, true, true, true, true, false, false, false, false, false, false, false, false, false, false, false, false, false, false, false, false, false, false, false, false] rfl rfl (by kernel_rfl) (fun _ _ _ h => h) (Or.inl ⟨by rfl, ?_⟩) hHeld ?_ ?_
              rotate_left
              · intro w' s0
                have q0 : World.cell? w' ⟨gv, 0, none⟩ = some (.slice Ar ds2.length cr) := (blk_cell (blk_below BS1.out s0) 0).trans rfl
                have q1 : World.cell? w' ⟨gv, 1, none⟩ = some (.slice Ao es2.length co) := (blk_cell (blk_below BS1.out s0) 1).trans rfl
                go_simp
                with_reducible rfl
              rotate_left
              · (try simp only [Act.put, List.setIfInBounds_toArray, List.set_cons_zero, List.set_cons_succ, i64_w, i32_w])
                rfl
              refine one_ (i := 1) (N := (some 187)) #[true, true, true, true, true, true, false, false, false, false, false, false, false, false, false, false, false, false, false, false, false, false, false, false, false, false] rfl rfl (by kernel_rfl) (by decide) (fun K hK => ?_)
              refine goes_ Try.func12 (by kernel_rfl) rfl #[.pointer (some ⟨g, 0, none⟩)] (by rfl) rfl rfl (by (try simp only [List.map_toArray, List.map_cons, List.map_nil]); first | done | rfl | (simp only [List.length_drop, List.length_take]; rfl)) ?_
              refine (readings_calls _ g (ds2.map c30) (es2.map c33) _ HS.out HL3.out.1).mono ?_
              rintro e w1 ⟨v1, rfl, hv, hb⟩; (obtain ⟨A1, c1, ee⟩ := Kd.R_slice hv; subst ee)
              refine ⟨_, rfl, ?_⟩
              have hh := below_step hHeld hb; clear hHeld; have hHeld := hh; clear hh
              have n_HB := Aside0.mk (below_step HB.out hb); have n_HS := Aside0.mk (IsR.below HS.out hb); have n_HV := Aside0.mk (IsD.below HV.out hb); have n_BS := Aside0.mk (blk_below BS.out hb); have n_HRr := Aside0.mk (Kd.R_below HRr.out hb); have n_HRo := Aside0.mk (Kd.R_below HRo.out hb); have n_HC1 := Aside0.mk (Kd.R_lower hv (below_size HB.out)); clear HB HS HV BS HRr HRo; have HB := n_HB; clear n_HB; have HS := n_HS; clear n_HS; have HV := n_HV; clear n_HV; have BS := n_BS; clear n_BS; have HRr := n_HRr; clear n_HRr; have HRo := n_HRo; clear n_HRo; have HC1 := n_HC1; clear n_HC1
              clear hb
              refine hK.out _ _ hHeld (fun _ => ?_)
              clear hK K
              refine norm_ (a' := ?_) ?_ ?_
              rotate_left
              · show Act.put _ (some 187) _ = _
                (try simp only [Act.put, List.setIfInBounds_toArray, List.set_cons_zero, List.set_cons_succ, i64_w, i32_w])
                rfl
              clear hv
              refine one_ (i := 6) (N := (some 192)) #[true, true, true, true, true, true, true, false, false, false, false, false, false, false, false, false, false, false, false, false, false, false, false, false, false, false] rfl rfl (by kernel_rfl) (by decide) (fun K hK => ?_)
              refine goes_ Try.func21 (by kernel_rfl) rfl #[.slice A1 (ds2.map c30).length c1, .slice Ar ds2.length cr] (by rfl) rfl rfl (by (try simp only [List.map_toArray, List.map_cons, List.map_nil]); first | done | rfl | (simp only [List.length_drop, List.length_take]; rfl)) ?_
              refine (readings_same A1 c1 (ds2.map c30) Ar cr ds2 _ rfl HL2.out.1 (Kd.R_reads' HC1.out).2.2 (Kd.R_reads' HC1.out).2.1 (Kd.R_reads' HRr.out).2.2 (Kd.R_reads' HRr.out).2.1).mono ?_
              rintro e w2 ⟨rfl, hb⟩
              refine ⟨_, rfl, ?_⟩
              have hh := below_step hHeld hb; clear hHeld; have hHeld := hh; clear hh
              have n_HB := Aside0.mk (below_step HB.out hb); have n_HS := Aside0.mk (IsR.below HS.out hb); have n_HV := Aside0.mk (IsD.below HV.out hb); have n_BS := Aside0.mk (blk_below BS.out hb); have n_HRr := Aside0.mk (Kd.R_below HRr.out hb); have n_HRo := Aside0.mk (Kd.R_below HRo.out hb); have n_HC1 := Aside0.mk (Kd.R_below HC1.out hb); clear HB HS HV BS HRr HRo HC1; have HB := n_HB; clear n_HB; have HS := n_HS; clear n_HS; have HV := n_HV; clear n_HV; have BS := n_BS; clear n_BS; have HRr := n_HRr; clear n_HRr; have HRo := n_HRo; clear n_HRo; have HC1 := n_HC1; clear n_HC1
              clear hb
              refine hK.out _ _ hHeld (fun _ => ?_)
              clear hK K
              refine norm_ (a' := ?_) ?_ ?_
              rotate_left
              · show Act.put _ (some 192) _ = _
                (try simp only [Act.put, List.setIfInBounds_toArray, List.set_cons_zero, List.set_cons_succ, i64_w, i32_w])
                rfl
              refine pure_ (i := 7) (N := (some 193)) (v := ?_) (a' := ?_) #[true, true, true, true, true, true, true, true, false, false, false, false, false, false, false, false, false, false, false, false, false, false, false, false, false, false] rfl rfl (by kernel_rfl) (fun _ _ _ h => h) (Or.inl ⟨by rfl, ?_⟩) ?_ ?_
              rotate_left
              · intro w'
                go_simp
                with_reducible rfl
              rotate_left
              · (try simp only [Act.put, List.setIfInBounds_toArray, List.set_cons_zero, List.set_cons_succ, i64_w, i32_w])
                rfl
              refine pure_ (i := 8) (N := (some 194)) (v := ?_) (a' := ?_) #[true, true, true, true, true, true, true, true, true, false, false, false, false, false, false, false, false, false, false, false, false, false, false, false, false, false] rfl rfl (by kernel_rfl) (fun _ _ _ h => h) (Or.inl ⟨by rfl, ?_⟩) ?_ ?_
              rotate_left
              · intro w'
                go_simp
                with_reducible rfl
              rotate_left
              · (try simp only [Act.put, List.setIfInBounds_toArray, List.set_cons_zero, List.set_cons_succ, i64_w, i32_w])
                rfl
              refine pure_ (i := 9) (N := (some 195)) (v := ?_) (a' := ?_) #[true, true, true, true, true, true, true, true, true, true, false, false, false, false, false, false, false, false, false, false, false, false, false, false, false, false] rfl rfl (by kernel_rfl) (fun _ _ _ h => h) (Or.inl ⟨by rfl, ?_⟩) ?_ ?_
              rotate_left
              · intro w'
                go_simp
                with_reducible rfl
              rotate_left
              · (try simp only [Act.put, List.setIfInBounds_toArray, List.set_cons_zero, List.set_cons_succ, i64_w, i32_w])
                rfl
              refine pure_ (i := 11) (N := (some 197)) (v := ?_) (a' := ?_) #[true, true, true, true, true, true, true, true, true, true, false, true, false, false, false, false, false, false, false, false, false, false, false, false, false, false] rfl rfl (by kernel_rfl) (fun _ _ _ h => h) (Or.inl ⟨by rfl, ?_⟩) ?_ ?_
              rotate_left
              · intro w'
                go_simp
                with_reducible rfl
              rotate_left
              · (try simp only [Act.put, List.setIfInBounds_toArray, List.set_cons_zero, List.set_cons_succ, i64_w, i32_w])
                rfl
              refine pure_ (i := 12) (N := (some 198)) (v := ?_) (a' := ?_) #[true, true, true, true, true, true, true, true, true, true, false, true, true, false, false, false, false, false, false, false, false, false, false, false, false, false] rfl rfl (by kernel_rfl) (fun _ _ _ h => h) (Or.inl ⟨by rfl, ?_⟩) ?_ ?_
              rotate_left
              · intro w'
                go_simp
                with_reducible rfl
              rotate_left
              · (try simp only [Act.put, List.setIfInBounds_toArray, List.set_cons_zero, List.set_cons_succ, i64_w, i32_w])
                rfl
              refine pure_ (i := 13) (N := (some 199)) (v := ?_) (a' := ?_) #[true, true, true, true, true, true, true, true, true, true, false, true, true, true, false, false, false, false, false, false, false, false, false, false, false, false] rfl rfl (by kernel_rfl) (fun _ _ _ h => h) (Or.inl ⟨by rfl, ?_⟩) ?_ ?_
              rotate_left
              · intro w'
                go_simp
                with_reducible rfl
              rotate_left
              · (try simp only [Act.put, List.setIfInBounds_toArray, List.set_cons_zero, List.set_cons_succ, i64_w, i32_w])
                rfl
              refine take_ (i := 14) (N := some 200) (v := ?_) (a' := ?_) #[true, true, true, true, true, true, true, true, true, true, false, true, true, true, true, false, false, false, false, false, false, false, false, false, false, false] rfl rfl (by kernel_rfl) (fun _ _ _ h => h) (Or.inl ⟨by rfl, ?_⟩) hHeld ?_ ?_
              rotate_left
              · intro w' s0
                have q0 : World.cell? w' ⟨gv, 0, none⟩ = some (.slice Ar ds2.length cr) := (blk_cell (blk_below BS1.out s0) 0).trans rfl
                have q1 : World.cell? w' ⟨gv, 1, none⟩ = some (.slice Ao es2.length co) := (blk_cell (blk_below BS1.out s0) 1).trans rfl
                go_simp
                with_reducible rfl
              rotate_left
              · (try simp only [Act.put, List.setIfInBounds_toArray, List.set_cons_zero, List.set_cons_succ, i64_w, i32_w])
                rfl
              refine one_ (i := 10) (N := (some 196)) #[true, true, true, true, true, true, true, true, true, true, true, true, true, true, true, false, false, false, false, false, false, false, false, false, false, false] rfl rfl (by kernel_rfl) (by decide) (fun K hK => ?_)
              refine goes_ Try.func23 (by kernel_rfl) rfl #[.pointer (some ⟨g, 0, none⟩)] (by rfl) rfl rfl (by (try simp only [List.map_toArray, List.map_cons, List.map_nil]); first | done | rfl | (simp only [List.length_drop, List.length_take]; rfl)) ?_
              refine (ownsOf_calls _ g (ds2.map c30) (es2.map c33) _ HS.out HL3.out.2).mono ?_
              rintro e w3 ⟨v3, rfl, hv, hb⟩; (obtain ⟨A3, c3, ee⟩ := Kd.R_slice hv; subst ee)
              refine ⟨_, rfl, ?_⟩
              have hh := below_step hHeld hb; clear hHeld; have hHeld := hh; clear hh
              have n_HB := Aside0.mk (below_step HB.out hb); have n_HS := Aside0.mk (IsR.below HS.out hb); have n_HV := Aside0.mk (IsD.below HV.out hb); have n_BS := Aside0.mk (blk_below BS.out hb); have n_HRr := Aside0.mk (Kd.R_below HRr.out hb); have n_HRo := Aside0.mk (Kd.R_below HRo.out hb); have n_HC1 := Aside0.mk (Kd.R_below HC1.out hb); have n_HC3 := Aside0.mk (Kd.R_lower hv (below_size HB.out)); clear HB HS HV BS HRr HRo HC1; have HB := n_HB; clear n_HB; have HS := n_HS; clear n_HS; have HV := n_HV; clear n_HV; have BS := n_BS; clear n_BS; have HRr := n_HRr; clear n_HRr; have HRo := n_HRo; clear n_HRo; have HC1 := n_HC1; clear n_HC1; have HC3 := n_HC3; clear n_HC3
              clear hb
              refine hK.out _ _ hHeld (fun _ => ?_)
              clear hK K
              refine norm_ (a' := ?_) ?_ ?_
              rotate_left
              · show Act.put _ (some 196) _ = _
                (try simp only [Act.put, List.setIfInBounds_toArray, List.set_cons_zero, List.set_cons_succ, i64_w, i32_w])
                rfl
              clear hv
              refine one_ (i := 15) (N := (some 201)) #[true, true, true, true, true, true, true, true, true, true, true, true, true, true, true, true, false, false, false, false, false, false, false, false, false, false] rfl rfl (by kernel_rfl) (by decide) (fun K hK => ?_)
              refine goes_ Try.func22 (by kernel_rfl) rfl #[.slice A3 (es2.map c33).length c3, .slice Ao es2.length co] (by rfl) rfl rfl (by (try simp only [List.map_toArray, List.map_cons, List.map_nil]); first | done | rfl | (simp only [List.length_drop, List.length_take]; rfl)) ?_
              refine (owns_same A3 c3 (es2.map c33) Ao co es2 _ rfl HL2.out.2 (Kd.R_reads' HC3.out).2.2 (Kd.R_reads' HC3.out).2.1 (Kd.R_reads' HRo.out).2.2 (Kd.R_reads' HRo.out).2.1).mono ?_
              rintro e w4 ⟨rfl, hb⟩
              refine ⟨_, rfl, ?_⟩
              have hh := below_step hHeld hb; clear hHeld; have hHeld := hh; clear hh
              have n_HB := Aside0.mk (below_step HB.out hb); have n_HS := Aside0.mk (IsR.below HS.out hb); have n_HV := Aside0.mk (IsD.below HV.out hb); have n_BS := Aside0.mk (blk_below BS.out hb); have n_HRr := Aside0.mk (Kd.R_below HRr.out hb); have n_HRo := Aside0.mk (Kd.R_below HRo.out hb); have n_HC1 := Aside0.mk (Kd.R_below HC1.out hb); have n_HC3 := Aside0.mk (Kd.R_below HC3.out hb); clear HB HS HV BS HRr HRo HC1 HC3; have HB := n_HB; clear n_HB; have HS := n_HS; clear n_HS; have HV := n_HV; clear n_HV; have BS := n_BS; clear n_BS; have HRr := n_HRr; clear n_HRr; have HRo := n_HRo; clear n_HRo; have HC1 := n_HC1; clear n_HC1; have HC3 := n_HC3; clear n_HC3
              clear hb
              refine hK.out _ _ hHeld (fun _ => ?_)
              clear hK K
              refine norm_ (a' := ?_) ?_ ?_
              rotate_left
              · show Act.put _ (some 201) _ = _
                (try simp only [Act.put, List.setIfInBounds_toArray, List.set_cons_zero, List.set_cons_succ, i64_w, i32_w])
                rfl
              refine pure_ (i := 16) (N := (some 202)) (v := ?_) (a' := ?_) #[true, true, true, true, true, true, true, true, true, true, true, true, true, true, true, true, true, false, false, false, false, false, false, false, false, false] rfl rfl (by kernel_rfl) (fun _ _ _ h => h) (Or.inl ⟨by rfl, ?_⟩) ?_ ?_
              rotate_left
              · intro w'
                go_simp
                with_reducible rfl
              rotate_left
              · (try simp only [Act.put, List.setIfInBounds_toArray, List.set_cons_zero, List.set_cons_succ, i64_w, i32_w])
                rfl
              refine pure_ (i := 17) (N := (some 203)) (v := ?_) (a' := ?_) #[true, true, true, true, true, true, true, true, true, true, true, true, true, true, true, true, true, true, false, false, false, false, false, false, false, false] rfl rfl (by kernel_rfl) (fun _ _ _ h => h) (Or.inl ⟨by rfl, ?_⟩) ?_ ?_
              rotate_left
              · intro w'
                go_simp
                with_reducible rfl
              rotate_left
              · (try simp only [Act.put, List.setIfInBounds_toArray, List.set_cons_zero, List.set_cons_succ, i64_w, i32_w])
                rfl
              refine pure_ (i := 18) (N := (some 204)) (v := ?_) (a' := ?_) #[true, true, true, true, true, true, true, true, true, true, true, true, true, true, true, true, true, true, true, false, false, false, false, false, false, false] rfl rfl (by kernel_rfl) (fun _ _ _ h => h) (Or.inl ⟨by rfl, ?_⟩) ?_ ?_
              rotate_left
              · intro w'
                go_simp
                with_reducible rfl
              rotate_left
              · (try simp only [Act.put, List.setIfInBounds_toArray, List.set_cons_zero, List.set_cons_succ, i64_w, i32_w])
                rfl
              refine pure_ (i := 19) (N := (some 205)) (v := ?_) (a' := ?_) #[true, true, true, true, true, true, true, true, true, true, true, true, true, true, true, true, true, true, true, true, false, false, false, false, false, false] rfl rfl (by kernel_rfl) (fun _ _ _ h => h) (Or.inl ⟨by rfl, ?_⟩) ?_ ?_
              rotate_left
              · intro w'
                go_simp
                with_reducible rfl
              rotate_left
              · (try simp only [Act.put, List.setIfInBounds_toArray, List.set_cons_zero, List.set_cons_succ, i64_w, i32_w])
                rfl
              refine pure_ (i := 21) (N := (some 207)) (v := ?_) (a' := ?_) #[true, true, true, true, true, true, true, true, true, true, true, true, true, true, true, true, true, true, true, true, false, true, false, false, false, false] rfl rfl (by kernel_rfl) (fun _ _ _ h => h) (Or.inl ⟨by rfl, ?_⟩) ?_ ?_
              rotate_left
              · intro w'
                go_simp
                with_reducible rfl
              rotate_left
              · (try simp only [Act.put, List.setIfInBounds_toArray, List.set_cons_zero, List.set_cons_succ, i64_w, i32_w])
                rfl
              refine one_ (i := 20) (N := (some 206)) #[true, true, true, true, true, true, true, true, true, true, true, true, true, true, true, true, true, true, true, true, true, true, false, false, false, false] rfl rfl (by kernel_rfl) (by decide) (fun K hK => ?_)
              refine goes_ Try.func13 (by kernel_rfl) rfl #[.pointer (some ⟨g, 0, none⟩)] (by rfl) rfl rfl (by (try simp only [List.map_toArray, List.map_cons, List.map_nil]); first | done | rfl | (simp only [List.length_drop, List.length_take]; rfl)) ?_
              refine (unclaimed_calls _ g (ds2.map c30) (es2.map c33) _ HS.out HL3.out.1).mono ?_
              rintro e w5 ⟨v5, rfl, hv, hb⟩; (obtain ⟨A5, c5, ee⟩ := Kd.R_slice hv; subst ee)
              refine ⟨_, rfl, ?_⟩
              have hh := below_step hHeld hb; clear hHeld; have hHeld := hh; clear hh
              have n_HB := Aside0.mk (below_step HB.out hb); have n_HS := Aside0.mk (IsR.below HS.out hb); have n_HV := Aside0.mk (IsD.below HV.out hb); have n_BS := Aside0.mk (blk_below BS.out hb); have n_HRr := Aside0.mk (Kd.R_below HRr.out hb); have n_HRo := Aside0.mk (Kd.R_below HRo.out hb); have n_HC1 := Aside0.mk (Kd.R_below HC1.out hb); have n_HC3 := Aside0.mk (Kd.R_below HC3.out hb); have n_HC5 := Aside0.mk (Kd.R_lower hv (below_size HB.out)); clear HB HS HV BS HRr HRo HC1 HC3; have HB := n_HB; clear n_HB; have HS := n_HS; clear n_HS; have HV := n_HV; clear n_HV; have BS := n_BS; clear n_BS; have HRr := n_HRr; clear n_HRr; have HRo := n_HRo; clear n_HRo; have HC1 := n_HC1; clear n_HC1; have HC3 := n_HC3; clear n_HC3; have HC5 := n_HC5; clear n_HC5
              clear hb
              refine hK.out _ _ hHeld (fun _ => ?_)
              clear hK K
              refine norm_ (a' := ?_) ?_ ?_
              rotate_left
              · show Act.put _ (some 206) _ = _
                (try simp only [Act.put, List.setIfInBounds_toArray, List.set_cons_zero, List.set_cons_succ, i64_w, i32_w])
                rfl
              clear hv
              refine one_ (i := 22) (N := (some 208)) #[true, true, true, true, true, true, true, true, true, true, true, true, true, true, true, true, true, true, true, true, true, true, true, false, false, false] rfl rfl (by kernel_rfl) (by decide) (fun K hK => ?_)
              refine goes_ Try.func24 (by kernel_rfl) rfl #[.pointer (some ⟨gv, 0, none⟩)] (by rfl) rfl rfl (by (try simp only [List.map_toArray, List.map_cons, List.map_nil]); first | done | rfl | (simp only [List.length_drop, List.length_take]; rfl)) ?_
              refine (dunc_calls _ gv ds2 es2 _ HV.out HL2.out.1).mono ?_
              rintro e w6 ⟨v6, rfl, hv, hb⟩; (obtain ⟨A6, c6, ee⟩ := Kd.R_slice hv; subst ee)
              refine ⟨_, rfl, ?_⟩
              have hh := below_step hHeld hb; clear hHeld; have hHeld := hh; clear hh
              have n_HB := Aside0.mk (below_step HB.out hb); have n_HS := Aside0.mk (IsR.below HS.out hb); have n_HV := Aside0.mk (IsD.below HV.out hb); have n_BS := Aside0.mk (blk_below BS.out hb); have n_HRr := Aside0.mk (Kd.R_below HRr.out hb); have n_HRo := Aside0.mk (Kd.R_below HRo.out hb); have n_HC1 := Aside0.mk (Kd.R_below HC1.out hb); have n_HC3 := Aside0.mk (Kd.R_below HC3.out hb); have n_HC5 := Aside0.mk (Kd.R_below HC5.out hb); have n_HC6 := Aside0.mk (Kd.R_lower hv (below_size HB.out)); clear HB HS HV BS HRr HRo HC1 HC3 HC5; have HB := n_HB; clear n_HB; have HS := n_HS; clear n_HS; have HV := n_HV; clear n_HV; have BS := n_BS; clear n_BS; have HRr := n_HRr; clear n_HRr; have HRo := n_HRo; clear n_HRo; have HC1 := n_HC1; clear n_HC1; have HC3 := n_HC3; clear n_HC3; have HC5 := n_HC5; clear n_HC5; have HC6 := n_HC6; clear n_HC6
              clear hb
              refine hK.out _ _ hHeld (fun _ => ?_)
              clear hK K
              refine norm_ (a' := ?_) ?_ ?_
              rotate_left
              · show Act.put _ (some 208) _ = _
                (try simp only [Act.put, List.setIfInBounds_toArray, List.set_cons_zero, List.set_cons_succ, i64_w, i32_w])
                rfl
              clear hv
              refine one_ (i := 23) (N := (some 209)) #[true, true, true, true, true, true, true, true, true, true, true, true, true, true, true, true, true, true, true, true, true, true, true, true, false, false] rfl rfl (by kernel_rfl) (by decide) (fun K hK => ?_)
              refine goes_ Try.func21 (by kernel_rfl) rfl #[.slice A5 ((ds2.map c30).filter (fun x => !(has33 (es2.map c33) x.f0).2)).length c5, .slice A6 (ds2.filter (fun x => find45 es2 x.f0 == -1)).length c6] (by rfl) rfl rfl (by (try simp only [List.map_toArray, List.map_cons, List.map_nil]); first | done | rfl | (simp only [List.length_drop, List.length_take]; rfl)) ?_
              refine (readings_same A5 c5 _ A6 c6 _ _ (unc_map ds2 es2) (Nat.le_trans (List.length_filter_le _ _) HL2.out.1) (Kd.R_reads' HC5.out).2.2 (Kd.R_reads' HC5.out).2.1 (Kd.R_reads' HC6.out).2.2 (Kd.R_reads' HC6.out).2.1).mono ?_
              rintro e w7 ⟨rfl, hb⟩
              refine ⟨_, rfl, ?_⟩
              have hh := below_step hHeld hb; clear hHeld; have hHeld := hh; clear hh
              have n_HB := Aside0.mk (below_step HB.out hb); have n_HS := Aside0.mk (IsR.below HS.out hb); have n_HV := Aside0.mk (IsD.below HV.out hb); have n_BS := Aside0.mk (blk_below BS.out hb); have n_HRr := Aside0.mk (Kd.R_below HRr.out hb); have n_HRo := Aside0.mk (Kd.R_below HRo.out hb); have n_HC1 := Aside0.mk (Kd.R_below HC1.out hb); have n_HC3 := Aside0.mk (Kd.R_below HC3.out hb); have n_HC5 := Aside0.mk (Kd.R_below HC5.out hb); have n_HC6 := Aside0.mk (Kd.R_below HC6.out hb); clear HB HS HV BS HRr HRo HC1 HC3 HC5 HC6; have HB := n_HB; clear n_HB; have HS := n_HS; clear n_HS; have HV := n_HV; clear n_HV; have BS := n_BS; clear n_BS; have HRr := n_HRr; clear n_HRr; have HRo := n_HRo; clear n_HRo; have HC1 := n_HC1; clear n_HC1; have HC3 := n_HC3; clear n_HC3; have HC5 := n_HC5; clear n_HC5; have HC6 := n_HC6; clear n_HC6
              clear hb
              refine hK.out _ _ hHeld (fun _ => ?_)
              clear hK K
              refine norm_ (a' := ?_) ?_ ?_
              rotate_left
              · show Act.put _ (some 209) _ = _
                (try simp only [Act.put, List.setIfInBounds_toArray, List.set_cons_zero, List.set_cons_succ, i64_w, i32_w])
                rfl
              refine pure_ (i := 24) (N := (some 210)) (v := ?_) (a' := ?_) #[true, true, true, true, true, true, true, true, true, true, true, true, true, true, true, true, true, true, true, true, true, true, true, true, true, false] rfl rfl (by kernel_rfl) (fun _ _ _ h => h) (Or.inl ⟨by rfl, ?_⟩) ?_ ?_
              rotate_left
              · intro w'
                go_simp
                with_reducible rfl
              rotate_left
              · (try simp only [Act.put, List.setIfInBounds_toArray, List.set_cons_zero, List.set_cons_succ, i64_w, i32_w])
                rfl
              refine pure_ (i := 25) (N := (some 211)) (v := ?_) (a' := ?_) #[true, true, true, true, true, true, true, true, true, true, true, true, true, true, true, true, true, true, true, true, true, true, true, true, true, true] rfl rfl (by kernel_rfl) (fun _ _ _ h => h) (Or.inl ⟨by rfl, ?_⟩) ?_ ?_
              rotate_left
              · intro w'
                go_simp
                with_reducible rfl
              rotate_left
              · (try simp only [Act.put, List.setIfInBounds_toArray, List.set_cons_zero, List.set_cons_succ, i64_w, i32_w])
                rfl
              refine done_ (by kernel_rfl) ?_
              go_wp2
              go_roundg (l0.length - (i + 1))
              case measure => have := HLT.out; have := HGG.out; omega
              case rel => exact ⟨i + 1, ds2, es2, HLT.out, Nat.le_refl _, by have := HLT.out; go_num, HI2, HS, HV, HB⟩

end Go.Proofs.Ytfiniikeoemleaa.R
