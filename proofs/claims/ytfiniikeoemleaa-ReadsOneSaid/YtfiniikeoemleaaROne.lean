/- The walk of ReadsOne. No condition but the row. Printed by wip/dev/gen12m.py. -/
import Derived.Test.YtfiniikeoemleaaRStep
import Derived.Test.YtfiniikeoemleaaRx4
import Derived.Deep.CutBlock
import Derived.Deep.CutRange
import Derived.BigQuiet
namespace Go.Proofs.Ytfiniikeoemleaa.R
open Go Go.RowKit Go.Proofs.YtfiniikeoemleaaW.PrintWords Go.Proofs.YtfiniikeoemleaaW.PrintLast Go.Proofs.YtfiniikeoemleaaW.PrintMore
attribute [local go_sem] max2_int min2_int max_two min_two max_three min_three max_four min_four
set_option linter.unusedVariables false
set_option linter.unusedSimpArgs false

theorem has30_callsE (base g : Nat) (rs : List S30) (os : List S33) (o : Int) (w : World) (h : IsR base w g rs os) (r : S30 × Bool) (hr : has30 rs o = r) :
    Calls Try.prog 18 #[.pointer (some ⟨g, 0, none⟩), .int .i64 o] w fun e w' => e = .returned (.tuple #[.agg #[.int .i64 r.1.f0, .int .i64 r.1.f1, .int .i64 r.1.f2], .bool r.2]) ∧ Below w.heap.size w w' := hr ▸ has30_calls base g rs os o w h
theorem has33_callsE (base g : Nat) (rs : List S30) (os : List S33) (o : Int) (w : World) (h : IsR base w g rs os) (r : S33 × Bool) (hr : has33 os o = r) :
    Calls Try.prog 19 #[.pointer (some ⟨g, 0, none⟩), .int .i64 o] w fun e w' => e = .returned (.tuple #[.agg #[.int .i64 r.1.f0, .int .i64 r.1.f1, .int .i64 r.1.f2, .int .i64 r.1.f3, .bool r.1.f4], .bool r.2]) ∧ Below w.heap.size w w' := hr ▸ has33_calls base g rs os o w h
set_option maxHeartbeats 8000000 in
set_option maxRecDepth 100000 in
theorem one_calls (A0 : Option Addr) (c0 : Nat) (l0 : List S47) (w : World) (hr0 : Kd.C k47 w A0 l0.length l0) (hc0 : l0.length ≤ c0) :
    Calls Try.prog 5 #[.slice A0 l0.length c0] w fun e w' => e = .returned (.bool true) ∧ Below w.heap.size w w' := by
  have hmax : l0.length ≤ 9223372036854775807 := Kd.C_max hr0
  have HR := Aside0.mk hr0
  have HB := Aside0.mk (Below.refl w.heap.size w)
  have hu30 := Try.underlying30
  have hu33 := Try.underlying33
  have hu44 := Try.underlying44
  have hu45 := Try.underlying45
  have hu47 := Try.underlying47
  clear hr0 hc0
  by_cases hl : l0.length ≤ 100
  rotate_left
  · have hl1 : (100 : Int) < (l0.length : Int) := by omega
    go_enter Try.func5, Try.ntmps5
    go_wp2_with (first | ((with_reducible refine gate_callee (f := 7) rfl ?_); refine goesL_ (some 19) rfl rfl Try.func7 (by kernel_rfl) rfl #[] rfl (by (try simp only [List.map_toArray, List.map_cons, List.map_nil]); first | done | rfl | (simp only [List.length_drop, List.length_take]; rfl)) ?_; (refine (alive_calls _).mono ?_); rintro e w1 ⟨rfl, hb⟩; refine ⟨_, rfl, ?_⟩; have n_HB := Aside0.mk (below_step HB.out hb); clear HB; have HB := n_HB; clear n_HB; clear hb))
    go_ret
    exact ⟨rfl, HB.out⟩
  · have hl1 : ¬ (100 : Int) < (l0.length : Int) := by omega
    have HL := Aside0.mk hl
    clear hl
    go_enter Try.func5, Try.ntmps5
    go_wp2_with (first | ((with_reducible refine gate_callee (f := 7) rfl ?_); refine goesL_ (some 19) rfl rfl Try.func7 (by kernel_rfl) rfl #[] rfl (by (try simp only [List.map_toArray, List.map_cons, List.map_nil]); first | done | rfl | (simp only [List.length_drop, List.length_take]; rfl)) ?_; (refine (alive_calls _).mono ?_); rintro e w1 ⟨rfl, hb⟩; refine ⟨_, rfl, ?_⟩; have n_HB := Aside0.mk (below_step HB.out hb); clear HB; have HB := n_HB; clear n_HB; clear hb) | ((with_reducible refine gate_callee (f := 8) rfl ?_); refine goesL_ (some 24) rfl rfl Try.func8 (by kernel_rfl) rfl #[] rfl (by first | done | rfl | simp) ?_; (refine (new_calls _).mono ?_); rintro e w2 ⟨g, rfl, hs, hb⟩; refine ⟨_, rfl, ?_⟩; have HS := Aside0.mk (hs.lower (below_size HB.out)); have n2 := Aside0.mk (below_step HB.out hb); clear HB hs hb; have HB := n2; clear n2))
    clear hl1
    go_loopg [4, 5, 6, 7, 8, 9, 10, 11, 12, 13, 14, 15, 16, 17, 18] l0.length (fun gg s4 _ _ _ _ _ _ _ _ _ _ _ _ _ _ wr => ∃ (i : Nat) (rs : List S30) (os : List S33), i ≤ l0.length ∧ l0.length - i ≤ gg ∧ s4 = .int .i64 i ∧ Aside0 (rs.length ≤ i ∧ os.length ≤ i ∧ (rs.map (·.f0)).Nodup ∧ (os.map (·.f0)).Nodup) ∧ Aside0 (IsR w.heap.size wr g rs os) ∧ Aside0 (Below w.heap.size w wr))
    case atStart => exact ⟨0, [], [], Nat.zero_le _, by omega, rfl, ⟨by simp, by simp, by simp, by simp⟩, HS, HB⟩
    case round =>
      clear HS HB
      obtain ⟨i, rs, os, hil, hgg, rfl, HI, HS, HB⟩ := hrel
      by_cases hlt : i < l0.length
      rotate_left
      · have hltz : ¬ (i : Int) < (l0.length : Int) := by omega
        clear hlt hil hgg
        go_wp2
        go_ret
        exact ⟨rfl, HB.out⟩
      · have hltz : (i : Int) < (l0.length : Int) := by omega
        have h0i : (0 : Int) ≤ (i : Int) := by omega
        have HLT := Aside0.mk hlt
        have HW := Aside0.mk (Below.refl wr.heap.size wr)
        obtain ⟨ad, ea, h0, h1, h2, h3, h4, h5, h6, h7, h8⟩ := at_T47 (Kd.C_below HR.out HB.out) (i : Int) (by omega) (by omega)
        subst ea
        generalize rd_T47 l0 (i : Int) = x at h0 h1 h2 h3 h4 h5 h6 h7 h8
        simp only [Int.toNat_natCast] at h0 h1 h2 h3 h4 h5 h6 h7 h8
        go_upto_region 12 with (first | ((with_reducible refine gate_dst (N := 5) rfl ?_); refine box_event ?hg (N := 5) ?hd (cs := #[.int .i64 0, .int .i64 0, .int .i64 0, .int .i64 0, .int .i64 0, .int .i64 0, .int .i64 0, .int .i64 0, .bool false]) (t := 47) ?hr ?_; (case hd => rfl); (case hg => rfl); (case hr => first | (go_simp; done) | (go_simp; rfl)); intro ga hgy w3 hbox hb; have GA := Aside0.mk ((by rw [hgy]; exact below_size HW.out : wr.heap.size ≤ ga)); clear hgy; have n_HW := Aside0.mk (below_step HW.out hb); have n_BK := Aside0.mk (hbox); clear HW; have HW := n_HW; clear n_HW; have BK := n_BK; clear n_BK; (try clear qBK0); have qBK0 : World.cell? _ ⟨ga, 0, none⟩ = some (.int .i64 0) := (blk_cell BK.out 0).trans rfl; (try clear zBK0); have zBK0 : World.frozen? _ ⟨ga, 0, none⟩ = false := blk_frozen BK.out 0; (try clear qBK1); have qBK1 : World.cell? _ ⟨ga, 1, none⟩ = some (.int .i64 0) := (blk_cell BK.out 1).trans rfl; (try clear zBK1); have zBK1 : World.frozen? _ ⟨ga, 1, none⟩ = false := blk_frozen BK.out 1; (try clear qBK2); have qBK2 : World.cell? _ ⟨ga, 2, none⟩ = some (.int .i64 0) := (blk_cell BK.out 2).trans rfl; (try clear zBK2); have zBK2 : World.frozen? _ ⟨ga, 2, none⟩ = false := blk_frozen BK.out 2; (try clear qBK3); have qBK3 : World.cell? _ ⟨ga, 3, none⟩ = some (.int .i64 0) := (blk_cell BK.out 3).trans rfl; (try clear zBK3); have zBK3 : World.frozen? _ ⟨ga, 3, none⟩ = false := blk_frozen BK.out 3; (try clear qBK4); have qBK4 : World.cell? _ ⟨ga, 4, none⟩ = some (.int .i64 0) := (blk_cell BK.out 4).trans rfl; (try clear zBK4); have zBK4 : World.frozen? _ ⟨ga, 4, none⟩ = false := blk_frozen BK.out 4; (try clear qBK5); have qBK5 : World.cell? _ ⟨ga, 5, none⟩ = some (.int .i64 0) := (blk_cell BK.out 5).trans rfl; (try clear zBK5); have zBK5 : World.frozen? _ ⟨ga, 5, none⟩ = false := blk_frozen BK.out 5; (try clear qBK6); have qBK6 : World.cell? _ ⟨ga, 6, none⟩ = some (.int .i64 0) := (blk_cell BK.out 6).trans rfl; (try clear zBK6); have zBK6 : World.frozen? _ ⟨ga, 6, none⟩ = false := blk_frozen BK.out 6; (try clear qBK7); have qBK7 : World.cell? _ ⟨ga, 7, none⟩ = some (.int .i64 0) := (blk_cell BK.out 7).trans rfl; (try clear zBK7); have zBK7 : World.frozen? _ ⟨ga, 7, none⟩ = false := blk_frozen BK.out 7; (try clear qBK8); have qBK8 : World.cell? _ ⟨ga, 8, none⟩ = some (.bool false) := (blk_cell BK.out 8).trans rfl; (try clear zBK8); have zBK8 : World.frozen? _ ⟨ga, 8, none⟩ = false := blk_frozen BK.out 8; clear hbox hb; (try clear hg)))
        have HV := Aside0.mk (below_set (j := 8) (v := .bool x.f2.f4) (below_set (j := 7) (v := .int .i64 x.f2.f3) (below_set (j := 6) (v := .int .i64 x.f2.f2) (below_set (j := 5) (v := .int .i64 x.f2.f1) (below_set (j := 4) (v := .int .i64 x.f2.f0) (below_set (j := 3) (v := .int .i64 x.f1.f2) (below_set (j := 2) (v := .int .i64 x.f1.f1) (below_set (j := 1) (v := .int .i64 x.f1.f0) (below_set (j := 0) (v := .int .i64 x.f0) HW.out GA.out) GA.out) GA.out) GA.out) GA.out) GA.out) GA.out) GA.out) GA.out)
        have BV : Aside0 (((World.setCell (World.setCell (World.setCell (World.setCell (World.setCell (World.setCell (World.setCell (World.setCell (World.setCell w3 ⟨ga, 0, none⟩ (.int .i64 x.f0)) ⟨ga, 1, none⟩ (.int .i64 x.f1.f0)) ⟨ga, 2, none⟩ (.int .i64 x.f1.f1)) ⟨ga, 3, none⟩ (.int .i64 x.f1.f2)) ⟨ga, 4, none⟩ (.int .i64 x.f2.f0)) ⟨ga, 5, none⟩ (.int .i64 x.f2.f1)) ⟨ga, 6, none⟩ (.int .i64 x.f2.f2)) ⟨ga, 7, none⟩ (.int .i64 x.f2.f3)) ⟨ga, 8, none⟩ (.bool x.f2.f4))).heap[ga]? = some (.cells #[.int .i64 x.f0, .int .i64 x.f1.f0, .int .i64 x.f1.f1, .int .i64 x.f1.f2, .int .i64 x.f2.f0, .int .i64 x.f2.f1, .int .i64 x.f2.f2, .int .i64 x.f2.f3, .bool x.f2.f4] 47 (0, 0))) := ⟨by refine blk_put (cs := #[.int .i64 x.f0, .int .i64 x.f1.f0, .int .i64 x.f1.f1, .int .i64 x.f1.f2, .int .i64 x.f2.f0, .int .i64 x.f2.f1, .int .i64 x.f2.f2, .int .i64 x.f2.f3, .bool false]) ?_ 8 _ rfl; refine blk_put (cs := #[.int .i64 x.f0, .int .i64 x.f1.f0, .int .i64 x.f1.f1, .int .i64 x.f1.f2, .int .i64 x.f2.f0, .int .i64 x.f2.f1, .int .i64 x.f2.f2, .int .i64 0, .bool false]) ?_ 7 _ rfl; refine blk_put (cs := #[.int .i64 x.f0, .int .i64 x.f1.f0, .int .i64 x.f1.f1, .int .i64 x.f1.f2, .int .i64 x.f2.f0, .int .i64 x.f2.f1, .int .i64 0, .int .i64 0, .bool false]) ?_ 6 _ rfl; refine blk_put (cs := #[.int .i64 x.f0, .int .i64 x.f1.f0, .int .i64 x.f1.f1, .int .i64 x.f1.f2, .int .i64 x.f2.f0, .int .i64 0, .int .i64 0, .int .i64 0, .bool false]) ?_ 5 _ rfl; refine blk_put (cs := #[.int .i64 x.f0, .int .i64 x.f1.f0, .int .i64 x.f1.f1, .int .i64 x.f1.f2, .int .i64 0, .int .i64 0, .int .i64 0, .int .i64 0, .bool false]) ?_ 4 _ rfl; refine blk_put (cs := #[.int .i64 x.f0, .int .i64 x.f1.f0, .int .i64 x.f1.f1, .int .i64 0, .int .i64 0, .int .i64 0, .int .i64 0, .int .i64 0, .bool false]) ?_ 3 _ rfl; refine blk_put (cs := #[.int .i64 x.f0, .int .i64 x.f1.f0, .int .i64 0, .int .i64 0, .int .i64 0, .int .i64 0, .int .i64 0, .int .i64 0, .bool false]) ?_ 2 _ rfl; refine blk_put (cs := #[.int .i64 x.f0, .int .i64 0, .int .i64 0, .int .i64 0, .int .i64 0, .int .i64 0, .int .i64 0, .int .i64 0, .bool false]) ?_ 1 _ rfl; refine blk_put (cs := #[.int .i64 0, .int .i64 0, .int .i64 0, .int .i64 0, .int .i64 0, .int .i64 0, .int .i64 0, .int .i64 0, .bool false]) ?_ 0 _ rfl; exact BK.out⟩
        clear HW BK h0 h1 h2 h3 h4 h5 h6 h7 h8 qBK0 zBK0 qBK1 zBK1 qBK2 zBK2 qBK3 zBK3 qBK4 zBK4 qBK5 zBK5 qBK6 zBK6 qBK7 zBK7 qBK8 zBK8
        generalize (World.setCell (World.setCell (World.setCell (World.setCell (World.setCell (World.setCell (World.setCell (World.setCell (World.setCell w3 ⟨ga, 0, none⟩ (.int .i64 x.f0)) ⟨ga, 1, none⟩ (.int .i64 x.f1.f0)) ⟨ga, 2, none⟩ (.int .i64 x.f1.f1)) ⟨ga, 3, none⟩ (.int .i64 x.f1.f2)) ⟨ga, 4, none⟩ (.int .i64 x.f2.f0)) ⟨ga, 5, none⟩ (.int .i64 x.f2.f1)) ⟨ga, 6, none⟩ (.int .i64 x.f2.f2)) ⟨ga, 7, none⟩ (.int .i64 x.f2.f3)) ⟨ga, 8, none⟩ (.bool x.f2.f4)) = wv at HV BV ⊢
        have q0 : World.cell? wv ⟨ga, 0, none⟩ = some (.int .i64 x.f0) := (blk_cell BV.out 0).trans rfl; have q1 : World.cell? wv ⟨ga, 1, none⟩ = some (.int .i64 x.f1.f0) := (blk_cell BV.out 1).trans rfl; have q2 : World.cell? wv ⟨ga, 2, none⟩ = some (.int .i64 x.f1.f1) := (blk_cell BV.out 2).trans rfl; have q3 : World.cell? wv ⟨ga, 3, none⟩ = some (.int .i64 x.f1.f2) := (blk_cell BV.out 3).trans rfl; have q4 : World.cell? wv ⟨ga, 4, none⟩ = some (.int .i64 x.f2.f0) := (blk_cell BV.out 4).trans rfl; have q5 : World.cell? wv ⟨ga, 5, none⟩ = some (.int .i64 x.f2.f1) := (blk_cell BV.out 5).trans rfl; have q6 : World.cell? wv ⟨ga, 6, none⟩ = some (.int .i64 x.f2.f2) := (blk_cell BV.out 6).trans rfl; have q7 : World.cell? wv ⟨ga, 7, none⟩ = some (.int .i64 x.f2.f3) := (blk_cell BV.out 7).trans rfl; have q8 : World.cell? wv ⟨ga, 8, none⟩ = some (.bool x.f2.f4) := (blk_cell BV.out 8).trans rfl
        have HSv := Aside0.mk (HS.out.below HV.out)
        have HBv := Aside0.mk (below_step HB.out HV.out)
        have HGG := Aside0.mk hgg
        clear HS HB hgg hil hlt
        go_upto_block 2 with (fail)
        go_cut [39] from 27 to 178 (fun _ wc => ∃ (rs' : List S30) (os' : List S33), Aside0 (rs'.length ≤ i + 1 ∧ os'.length ≤ i + 1 ∧ (rs'.map (·.f0)).Nodup ∧ (os'.map (·.f0)).Nodup) ∧ Aside0 (IsR w.heap.size wc g rs' os') ∧ Aside0 (Below w.heap.size w wc))
        case first =>
          have HL1 := Aside0.mk (show rs.length ≤ 1000 ∧ os.length ≤ 1000 by have := HI.out; have := HLT.out; have := HL.out; omega)
          cases b0 : (x.f0 == 0) with
          | true =>
            go_wp2_with (go_at_call 9; refine (add_all _ g rs os ⟨x.f1.f0, x.f1.f1, 0⟩ _ HSv.out (below_size HBv.out) HL1.out.1).mono ?_; rintro e w5 ⟨he, hs, hb⟩; obtain ⟨rv, hrv⟩ : ∃ rv : Int, e = .returned (.int .i64 rv) := ⟨_, he⟩; clear he; subst hrv; have n1 := Aside0.mk hs; have n2 := Aside0.mk (HBv.out.trans hb); clear HSv HBv hs hb; have HSv := n1; have HBv := n2; clear n1 n2)
            go_meet
            case rel => exact ⟨_, _, ⟨by have := HI.out.1; have := addR_len rs ⟨x.f1.f0, x.f1.f1, 0⟩; omega, by have := HI.out.2.1; omega, addR_once HI.out.2.2.1, HI.out.2.2.2⟩, HSv, HBv⟩
          | false =>
            cases b1 : (x.f0 == 1) with
            | true =>
              go_wp2_with (go_at_call 11; refine (drop_all _ g rs os x.f1.f0 _ HSv.out (below_size HBv.out) HL1.out.1).mono ?_; rintro e w5 ⟨he, hs, hb⟩; obtain ⟨rv, hrv⟩ : ∃ rv : Bool, e = .returned (.bool rv) := ⟨_, he⟩; clear he; subst hrv; have n1 := Aside0.mk hs; have n2 := Aside0.mk (HBv.out.trans hb); clear HSv HBv hs hb; have HSv := n1; have HBv := n2; clear n1 n2)
              go_meet
              case rel => exact ⟨_, _, ⟨by have := HI.out.1; have := dropR_len rs x.f1.f0; omega, by have := HI.out.2.1; omega, dropR_once HI.out.2.2.1, HI.out.2.2.2⟩, HSv, HBv⟩
            | false =>
              cases b2 : (x.f0 == 2) with
              | true =>
                go_wp2_with (first | (go_at_call 16; refine (quarrellaw12_own.calls _ _ _ _ _ x.f2.f0 x.f2.f1 x.f2.f2 x.f2.f3 x.f2.f4 _ rfl).mono ?_; rintro e w4 ⟨rfl, hb⟩; have n1 := Aside0.mk (HSv.out.below hb); have n2 := Aside0.mk (below_step HBv.out hb); clear HSv HBv hb; have HSv := n1; have HBv := n2; clear n1 n2) | (go_at_call 10; refine (put_all _ g rs os ⟨x.f2.f0, x.f2.f1, x.f2.f2, x.f2.f3, x.f2.f4⟩ _ HSv.out (below_size HBv.out) HL1.out.2).mono ?_; rintro e w5 ⟨rfl, hs, hb⟩; have n1 := Aside0.mk hs; have n2 := Aside0.mk (HBv.out.trans hb); clear HSv HBv hs hb; have HSv := n1; have HBv := n2; clear n1 n2))
                go_meet
                case rel => exact ⟨_, _, ⟨by have := HI.out.1; omega, by have := HI.out.2.1; have := putR_len os ⟨x.f2.f0, x.f2.f1, x.f2.f2, x.f2.f3, x.f2.f4⟩; omega, HI.out.2.2.1, putR_once HI.out.2.2.2⟩, HSv, HBv⟩
              | false =>
                go_wp2
                go_meet
                case rel => exact ⟨_, _, ⟨by have := HI.out.1; omega, by have := HI.out.2.1; omega, HI.out.2.2⟩, HSv, HBv⟩
        case rest =>
          clear HSv HBv HV BV q0 q1 q2 q3 q4 q5 q6 q7 q8
          obtain ⟨rs2, os2, HI2, HS, HB⟩ := hcut
          have HL2 := Aside0.mk (show rs2.length ≤ 1000 ∧ os2.length ≤ 1000 by have := HI2.out; have := HLT.out; have := HL.out; omega)
          have HW := Aside0.mk (Below.refl wc.heap.size wc)
          clear HI
          go_upto_region 20 with (first | ((with_reducible refine gate_callee (f := 12) rfl ?_); refine goesL_ (some 65) rfl rfl Try.func12 (by kernel_rfl) rfl #[.pointer (some ⟨g, 0, none⟩)] rfl (by (try simp only [List.map_toArray, List.map_cons, List.map_nil]); first | done | rfl | (simp only [List.length_drop, List.length_take]; rfl)) ?_; (refine (readings_calls _ g rs2 os2 _ (HS.out.below HW.out) HL2.out.1).mono ?_); rintro e w6 ⟨v6, rfl, hv, hb⟩; refine ⟨_, rfl, ?_⟩; (obtain ⟨A6, c6, ee⟩ := Kd.R_slice hv; subst ee); have n1 := Aside0.mk (Kd.R_lower hv (below_size HW.out)); have n2 := Aside0.mk (below_step HW.out hb); clear HW hv hb; have HRr := n1; have HW := n2; clear n1 n2) | ((with_reducible refine gate_callee (f := 23) rfl ?_); refine goesL_ (some 67) rfl rfl Try.func23 (by kernel_rfl) rfl #[.pointer (some ⟨g, 0, none⟩)] rfl (by (try simp only [List.map_toArray, List.map_cons, List.map_nil]); first | done | rfl | (simp only [List.length_drop, List.length_take]; rfl)) ?_; (refine (ownsOf_calls _ g rs2 os2 _ (HS.out.below HW.out) HL2.out.2).mono ?_); rintro e w7 ⟨v7, rfl, hv, hb⟩; refine ⟨_, rfl, ?_⟩; (obtain ⟨A7, c7, ee⟩ := Kd.R_slice hv; subst ee); have n1 := Aside0.mk (Kd.R_lower hv (below_size HW.out)); have n2 := Aside0.mk (below_step HW.out hb); have n3 := Aside0.mk (Kd.R_below HRr.out hb); clear HW HRr hv hb; have HRo := n1; have HW := n2; have HRr := n3; clear n1 n2 n3))
          go_wp2
          go_loopg [8, 9, 10, 11] rs2.length (fun gg s1 _ _ _ wr => ∃ kk : Nat, kk ≤ rs2.length ∧ rs2.length - kk ≤ gg ∧ s1 = .int .i64 kk ∧ Aside0 (Kd.R k30 30 wr wc.heap.size (fun _ => True) (.slice A6 rs2.length c6) rs2) ∧ Aside0 (Kd.R k33 33 wr wc.heap.size (fun _ => True) (.slice A7 os2.length c7) os2) ∧ Aside0 (Below wc.heap.size wc wr))
          case atStart => exact ⟨0, Nat.zero_le _, by omega, rfl, HRr, HRo, HW⟩
          case round =>
            clear HRr HRo HW
            obtain ⟨kk, hkk, hgk, rfl, HRr, HRo, HW⟩ := hrel
            by_cases hkl : kk < rs2.length
            rotate_left
            · have hkz : ¬ (kk : Int) < (rs2.length : Int) := by omega
              clear hkk hgk hkl
              go_wp2
              clear hkz
              go_loopg [12, 13, 14, 15] os2.length (fun gg s1 _ _ _ wr => ∃ kk : Nat, kk ≤ os2.length ∧ os2.length - kk ≤ gg ∧ s1 = .int .i64 kk ∧ Aside0 (Kd.R k30 30 wr wc.heap.size (fun _ => True) (.slice A6 rs2.length c6) rs2) ∧ Aside0 (Kd.R k33 33 wr wc.heap.size (fun _ => True) (.slice A7 os2.length c7) os2) ∧ Aside0 (Below wc.heap.size wc wr))
              case atStart => exact ⟨0, Nat.zero_le _, by omega, rfl, HRr, HRo, HW⟩
              case round =>
                clear HRr HRo HW
                obtain ⟨kk, hkk, hgk, rfl, HRr, HRo, HW⟩ := hrel
                by_cases hkl : kk < os2.length
                rotate_left
                · have hkz : ¬ (kk : Int) < (os2.length : Int) := by omega
                  clear hkk hgk hkl
                  by_cases h0l : 0 < rs2.length
                  rotate_left
                  · have h0z : ¬ (0 : Int) < (rs2.length : Int) := by omega
                    clear h0l
                    go_wp2
                    go_roundg (l0.length - (i + 1))
                    case measure => have := HLT.out; have := HGG.out; omega
                    case rel => exact ⟨i + 1, rs2, os2, HLT.out, Nat.le_refl _, by have := HLT.out; go_num, HI2, ⟨HS.out.below HW.out⟩, ⟨below_step HB.out HW.out⟩⟩
                  · have h0z : (0 : Int) < (rs2.length : Int) := by omega
                    have H0L := Aside0.mk h0l
                    have HY := Aside0.mk (has30_self HI2.out.2.2.1 0 H0L.out)
                    have hrd : rd_T30 rs2 (0 : Int) = rs2[0]'(H0L.out) := by simp [rd_T30, h0l]
                    generalize hy : rs2[0]'(H0L.out) = y at hrd HY
                    have Y := Aside0.mk hy
                    obtain ⟨b, eb, hge⟩ := block30 HRr.out h0l
                    subst eb
                    have HGE := Aside0.mk hge
                    clear hy hge h0l
                    obtain ⟨ad_, ea, h0, h1, h2⟩ := at_T30 (Kd.R_reads' HRr.out).2.2 (0 : Int) (by omega) (by omega)
                    cases ea
                    rw [hrd] at h0 h1 h2
                    simp [Addr.add] at h0 h1 h2
                    have NB := Aside0.mk (show b < wr.heap.size from World.block_lt_of_cell? _ _ h0)
                    go_upto_region 44 with (first | ((with_reducible refine gate_dst (N := 16) rfl ?_); refine box_event ?hg (N := 16) ?hd (cs := #[.int .i64 0, .int .i64 0, .int .i64 0]) (t := 30) ?hr ?_; (case hd => rfl); (case hg => rfl); (case hr => first | (go_simp; done) | (go_simp; rfl)); intro gx hgx w9 hbox hb; have GX := Aside0.mk (Nat.le_of_eq hgx.symm : wr.heap.size ≤ gx); have HV := Aside0.mk hb; have BK := Aside0.mk hbox; clear hgx hbox hb; have qK0 : World.cell? _ ⟨gx, 0, none⟩ = some (.int .i64 0) := (blk_cell BK.out 0).trans rfl; have zK0 : World.frozen? _ ⟨gx, 0, none⟩ = false := blk_frozen BK.out 0; have qK1 : World.cell? _ ⟨gx, 1, none⟩ = some (.int .i64 0) := (blk_cell BK.out 1).trans rfl; have zK1 : World.frozen? _ ⟨gx, 1, none⟩ = false := blk_frozen BK.out 1; have qK2 : World.cell? _ ⟨gx, 2, none⟩ = some (.int .i64 0) := (blk_cell BK.out 2).trans rfl; have zK2 : World.frozen? _ ⟨gx, 2, none⟩ = false := blk_frozen BK.out 2))
                    clear hkz
                    have n0 := Aside0.mk (below_set (j := 2) (v := .int .i64 y.f2) (below_set (j := 1) (v := .int .i64 y.f1) (below_set (j := 0) (v := .int .i64 y.f0) HV.out GX.out) GX.out) GX.out)
                    have BV : Aside0 (((World.setCell (World.setCell (World.setCell w9 ⟨gx, 0, none⟩ (.int .i64 y.f0)) ⟨gx, 1, none⟩ (.int .i64 y.f1)) ⟨gx, 2, none⟩ (.int .i64 y.f2))).heap[gx]? = some (.cells #[.int .i64 y.f0, .int .i64 y.f1, .int .i64 y.f2] 30 (0, 0))) := ⟨by refine blk_put (cs := #[.int .i64 y.f0, .int .i64 y.f1, .int .i64 0]) ?_ 2 _ rfl; refine blk_put (cs := #[.int .i64 y.f0, .int .i64 0, .int .i64 0]) ?_ 1 _ rfl; refine blk_put (cs := #[.int .i64 0, .int .i64 0, .int .i64 0]) ?_ 0 _ rfl; exact BK.out⟩
                    clear HV BK qK0 zK0 qK1 zK1 qK2 zK2
                    generalize (World.setCell (World.setCell (World.setCell w9 ⟨gx, 0, none⟩ (.int .i64 y.f0)) ⟨gx, 1, none⟩ (.int .i64 y.f1)) ⟨gx, 2, none⟩ (.int .i64 y.f2)) = wx at n0 BV ⊢
                    have hb := n0.out
                    have n1 := Aside0.mk (Kd.R_below HRr.out hb); have n2 := Aside0.mk (Kd.R_below HRo.out hb); have n3 := Aside0.mk (below_step HW.out hb); clear HRr HRo HW; have HRr := n1; have HRo := n2; have HW := n3; clear n1 n2 n3
                    clear n0 hb
                    have q0 : World.cell? wx ⟨gx, 0, none⟩ = some (.int .i64 y.f0) := (blk_cell BV.out 0).trans rfl
                    have q1 : World.cell? wx ⟨gx, 1, none⟩ = some (.int .i64 y.f1) := (blk_cell BV.out 1).trans rfl
                    have q2 : World.cell? wx ⟨gx, 2, none⟩ = some (.int .i64 y.f2) := (blk_cell BV.out 2).trans rfl
                    clear h0 h1 h2
                    obtain ⟨ad_, ea, h0, h1, h2⟩ := at_T30 (Kd.R_reads' HRr.out).2.2 (0 : Int) (by omega) (by omega)
                    cases ea
                    rw [hrd] at h0 h1 h2
                    simp [Addr.add] at h0 h1 h2
                    have z0 := frozen30 HRr.out 0
                    have z1 := frozen30 HRr.out 1
                    go_upto_region 45 with (fail)
                    have GB := Aside0.mk (show gx ≠ b by have := NB.out; have := GX.out; omega)
                    clear h0 h1 h2 z0 z1 q0 q1 q2 HRr HRo h0z
                    have n1 := Aside0.mk (below_set (j := 1) (v := .int .i64 (wrap64 (y.f1 + 1))) HW.out HGE.out)
                    have n2 := Aside0.mk (blk_far BV.out (p := ⟨b, 1, none⟩) GB.out (.int .i64 (wrap64 (y.f1 + 1))))
                    clear HW BV GX
                    have HW := n1
                    have BV := n2
                    clear n1 n2
                    generalize World.setCell wx ⟨b, 1, none⟩ (.int .i64 (wrap64 (y.f1 + 1))) = wt at HW BV ⊢
                    have q0 : World.cell? wt ⟨gx, 0, none⟩ = some (.int .i64 y.f0) := (blk_cell BV.out 0).trans rfl
                    have q1 : World.cell? wt ⟨gx, 1, none⟩ = some (.int .i64 y.f1) := (blk_cell BV.out 1).trans rfl
                    have q2 : World.cell? wt ⟨gx, 2, none⟩ = some (.int .i64 y.f2) := (blk_cell BV.out 2).trans rfl
                    go_upto_region 46 with (first | ((with_reducible refine gate_callee (f := 18) rfl ?_); refine goesL_ (some 169) rfl rfl Try.func18 (by kernel_rfl) rfl #[.pointer (some ⟨g, 0, none⟩), .int .i64 y.f0] rfl (by (try simp only [List.map_toArray, List.map_cons, List.map_nil]); first | done | rfl | (simp only [List.length_drop, List.length_take]; rfl)) ?_; (refine (has30_callsE _ g rs2 os2 y.f0 _ (HS.out.below HW.out) (y, true) HY.out).mono ?_); rintro e w8 ⟨rfl, hb⟩; refine ⟨_, rfl, ?_⟩; have n1 := Aside0.mk (blk_below BV.out hb); clear BV q0 q1 q2; have BV := n1; clear n1; have n1 := Aside0.mk (below_step HW.out hb); clear HW; have HW := n1; clear n1; clear hb) | ((with_reducible refine gate_dst (N := 17) rfl ?_); refine box_event ?hg (N := 17) ?hd (cs := #[.int .i64 0, .int .i64 0, .int .i64 0]) (t := 30) ?hr ?_; (case hd => rfl); (case hg => rfl); (case hr => first | (go_simp; done) | (go_simp; rfl)); intro gy hgx w10 hbox hb; have GX := Aside0.mk (Nat.le_of_eq hgx.symm : w8.heap.size ≤ gy); have HV := Aside0.mk hb; have BK := Aside0.mk hbox; clear hgx hbox hb; have qK0 : World.cell? _ ⟨gy, 0, none⟩ = some (.int .i64 0) := (blk_cell BK.out 0).trans rfl; have zK0 : World.frozen? _ ⟨gy, 0, none⟩ = false := blk_frozen BK.out 0; have qK1 : World.cell? _ ⟨gy, 1, none⟩ = some (.int .i64 0) := (blk_cell BK.out 1).trans rfl; have zK1 : World.frozen? _ ⟨gy, 1, none⟩ = false := blk_frozen BK.out 1; have qK2 : World.cell? _ ⟨gy, 2, none⟩ = some (.int .i64 0) := (blk_cell BK.out 2).trans rfl; have zK2 : World.frozen? _ ⟨gy, 2, none⟩ = false := blk_frozen BK.out 2))
                    have n0 := Aside0.mk (below_set (j := 2) (v := .int .i64 y.f2) (below_set (j := 1) (v := .int .i64 y.f1) (below_set (j := 0) (v := .int .i64 y.f0) HV.out GX.out) GX.out) GX.out)
                    have BW : Aside0 (((World.setCell (World.setCell (World.setCell w10 ⟨gy, 0, none⟩ (.int .i64 y.f0)) ⟨gy, 1, none⟩ (.int .i64 y.f1)) ⟨gy, 2, none⟩ (.int .i64 y.f2))).heap[gy]? = some (.cells #[.int .i64 y.f0, .int .i64 y.f1, .int .i64 y.f2] 30 (0, 0))) := ⟨by refine blk_put (cs := #[.int .i64 y.f0, .int .i64 y.f1, .int .i64 0]) ?_ 2 _ rfl; refine blk_put (cs := #[.int .i64 y.f0, .int .i64 0, .int .i64 0]) ?_ 1 _ rfl; refine blk_put (cs := #[.int .i64 0, .int .i64 0, .int .i64 0]) ?_ 0 _ rfl; exact BK.out⟩
                    clear HV BK GX GB qK0 zK0 qK1 zK1 qK2 zK2
                    generalize (World.setCell (World.setCell (World.setCell w10 ⟨gy, 0, none⟩ (.int .i64 y.f0)) ⟨gy, 1, none⟩ (.int .i64 y.f1)) ⟨gy, 2, none⟩ (.int .i64 y.f2)) = wu at n0 BW ⊢
                    have n1 := Aside0.mk (blk_below BV.out n0.out)
                    have n2 := Aside0.mk (below_step HW.out n0.out)
                    clear BV HW n0
                    have BV := n1
                    have HW := n2
                    clear n1 n2
                    have q0 : World.cell? wu ⟨gx, 0, none⟩ = some (.int .i64 y.f0) := (blk_cell BV.out 0).trans rfl
                    have q1 : World.cell? wu ⟨gx, 1, none⟩ = some (.int .i64 y.f1) := (blk_cell BV.out 1).trans rfl
                    have q2 : World.cell? wu ⟨gx, 2, none⟩ = some (.int .i64 y.f2) := (blk_cell BV.out 2).trans rfl
                    have r0 : World.cell? wu ⟨gy, 0, none⟩ = some (.int .i64 y.f0) := (blk_cell BW.out 0).trans rfl
                    have r1 : World.cell? wu ⟨gy, 1, none⟩ = some (.int .i64 y.f1) := (blk_cell BW.out 1).trans rfl
                    have r2 : World.cell? wu ⟨gy, 2, none⟩ = some (.int .i64 y.f2) := (blk_cell BW.out 2).trans rfl
                    go_wp2
                    go_roundg (l0.length - (i + 1))
                    case measure => have := HLT.out; have := HGG.out; omega
                    case rel => exact ⟨i + 1, rs2, os2, HLT.out, Nat.le_refl _, by have := HLT.out; go_num, HI2, ⟨HS.out.below HW.out⟩, ⟨below_step HB.out HW.out⟩⟩
                · have hkz : (kk : Int) < (os2.length : Int) := by omega
                  have h0k : (0 : Int) ≤ (kk : Int) := by omega
                  have HKL := Aside0.mk hkl
                  have HGK := Aside0.mk hgk
                  have HY := Aside0.mk (has33_self HI2.out.2.2.2 kk HKL.out)
                  have hrd : rd_T33 os2 (kk : Int) = os2[kk]'(HKL.out) := by simp [rd_T33, hkl]
                  obtain ⟨ad6, ea, h0, h1, h2, h3, h4⟩ := at_T33 (Kd.R_reads' HRo.out).2.2 (kk : Int) (by omega) (by omega)
                  have EA := Aside0.mk ea
                  subst ea
                  rw [hrd] at h0 h1 h2 h3 h4
                  simp only [Int.toNat_natCast] at h0 h1 h2 h3 h4
                  generalize hy : os2[kk]'(HKL.out) = y at hrd HY h0 h1 h2 h3 h4
                  have Y := Aside0.mk hy
                  clear hy hrd hkk hgk EA
                  go_upto_region 35 with (first | ((with_reducible refine gate_callee (f := 19) rfl ?_); refine goesL_ (some 123) rfl rfl Try.func19 (by kernel_rfl) rfl #[.pointer (some ⟨g, 0, none⟩), .int .i64 y.f0] rfl (by (try simp only [List.map_toArray, List.map_cons, List.map_nil]); first | done | rfl | (simp only [List.length_drop, List.length_take]; rfl)) ?_; (refine (has33_callsE _ g rs2 os2 y.f0 _ (HS.out.below HW.out) (y, true) HY.out).mono ?_); rintro e w8 ⟨rfl, hb⟩; refine ⟨_, rfl, ?_⟩; clear h0 h1 h2 h3 h4; have n1 := Aside0.mk (Kd.R_below HRr.out hb); have n2 := Aside0.mk (Kd.R_below HRo.out hb); have n3 := Aside0.mk (below_step HW.out hb); clear HRr HRo HW; have HRr := n1; have HRo := n2; have HW := n3; clear n1 n2 n3; clear hb) | ((with_reducible refine gate_dst (N := 13) rfl ?_); refine box_event ?hg (N := 13) ?hd (cs := #[.int .i64 0, .int .i64 0, .int .i64 0, .int .i64 0, .bool false]) (t := 33) ?hr ?_; (case hd => rfl); (case hg => rfl); (case hr => first | (go_simp; done) | (go_simp; rfl)); intro gx hgx w9 hbox hb; have GX := Aside0.mk (Nat.le_of_eq hgx.symm : w8.heap.size ≤ gx); have HV := Aside0.mk hb; have BK := Aside0.mk hbox; clear hgx hbox hb; have qK0 : World.cell? _ ⟨gx, 0, none⟩ = some (.int .i64 0) := (blk_cell BK.out 0).trans rfl; have zK0 : World.frozen? _ ⟨gx, 0, none⟩ = false := blk_frozen BK.out 0; have qK1 : World.cell? _ ⟨gx, 1, none⟩ = some (.int .i64 0) := (blk_cell BK.out 1).trans rfl; have zK1 : World.frozen? _ ⟨gx, 1, none⟩ = false := blk_frozen BK.out 1; have qK2 : World.cell? _ ⟨gx, 2, none⟩ = some (.int .i64 0) := (blk_cell BK.out 2).trans rfl; have zK2 : World.frozen? _ ⟨gx, 2, none⟩ = false := blk_frozen BK.out 2; have qK3 : World.cell? _ ⟨gx, 3, none⟩ = some (.int .i64 0) := (blk_cell BK.out 3).trans rfl; have zK3 : World.frozen? _ ⟨gx, 3, none⟩ = false := blk_frozen BK.out 3; have qK4 : World.cell? _ ⟨gx, 4, none⟩ = some (.bool false) := (blk_cell BK.out 4).trans rfl; have zK4 : World.frozen? _ ⟨gx, 4, none⟩ = false := blk_frozen BK.out 4))
                  have n0 := Aside0.mk (below_set (j := 4) (v := .bool y.f4) (below_set (j := 3) (v := .int .i64 y.f3) (below_set (j := 2) (v := .int .i64 y.f2) (below_set (j := 1) (v := .int .i64 y.f1) (below_set (j := 0) (v := .int .i64 y.f0) HV.out GX.out) GX.out) GX.out) GX.out) GX.out)
                  have BV : Aside0 (((World.setCell (World.setCell (World.setCell (World.setCell (World.setCell w9 ⟨gx, 0, none⟩ (.int .i64 y.f0)) ⟨gx, 1, none⟩ (.int .i64 y.f1)) ⟨gx, 2, none⟩ (.int .i64 y.f2)) ⟨gx, 3, none⟩ (.int .i64 y.f3)) ⟨gx, 4, none⟩ (.bool y.f4))).heap[gx]? = some (.cells #[.int .i64 y.f0, .int .i64 y.f1, .int .i64 y.f2, .int .i64 y.f3, .bool y.f4] 33 (0, 0))) := ⟨by refine blk_put (cs := #[.int .i64 y.f0, .int .i64 y.f1, .int .i64 y.f2, .int .i64 y.f3, .bool false]) ?_ 4 _ rfl; refine blk_put (cs := #[.int .i64 y.f0, .int .i64 y.f1, .int .i64 y.f2, .int .i64 0, .bool false]) ?_ 3 _ rfl; refine blk_put (cs := #[.int .i64 y.f0, .int .i64 y.f1, .int .i64 0, .int .i64 0, .bool false]) ?_ 2 _ rfl; refine blk_put (cs := #[.int .i64 y.f0, .int .i64 0, .int .i64 0, .int .i64 0, .bool false]) ?_ 1 _ rfl; refine blk_put (cs := #[.int .i64 0, .int .i64 0, .int .i64 0, .int .i64 0, .bool false]) ?_ 0 _ rfl; exact BK.out⟩
                  clear HV BK qK0 zK0 qK1 zK1 qK2 zK2 qK3 zK3 qK4 zK4
                  generalize (World.setCell (World.setCell (World.setCell (World.setCell (World.setCell w9 ⟨gx, 0, none⟩ (.int .i64 y.f0)) ⟨gx, 1, none⟩ (.int .i64 y.f1)) ⟨gx, 2, none⟩ (.int .i64 y.f2)) ⟨gx, 3, none⟩ (.int .i64 y.f3)) ⟨gx, 4, none⟩ (.bool y.f4)) = wx at n0 BV ⊢
                  have hb := n0.out
                  have n1 := Aside0.mk (Kd.R_below HRr.out hb); have n2 := Aside0.mk (Kd.R_below HRo.out hb); have n3 := Aside0.mk (below_step HW.out hb); clear HRr HRo HW; have HRr := n1; have HRo := n2; have HW := n3; clear n1 n2 n3
                  clear n0 hb
                  have q0 : World.cell? wx ⟨gx, 0, none⟩ = some (.int .i64 y.f0) := (blk_cell BV.out 0).trans rfl
                  have q1 : World.cell? wx ⟨gx, 1, none⟩ = some (.int .i64 y.f1) := (blk_cell BV.out 1).trans rfl
                  have q2 : World.cell? wx ⟨gx, 2, none⟩ = some (.int .i64 y.f2) := (blk_cell BV.out 2).trans rfl
                  have q3 : World.cell? wx ⟨gx, 3, none⟩ = some (.int .i64 y.f3) := (blk_cell BV.out 3).trans rfl
                  have q4 : World.cell? wx ⟨gx, 4, none⟩ = some (.bool y.f4) := (blk_cell BV.out 4).trans rfl
                  clear BV GX
                  obtain ⟨ad_, ea, h0, h1, h2, h3, h4⟩ := at_T33 (Kd.R_reads' HRo.out).2.2 (kk : Int) (by omega) (by omega)
                  cases ea
                  rw [show rd_T33 os2 (kk : Int) = y by simp [rd_T33, hkl, Y.out]] at h0 h1 h2 h3 h4
                  simp only [Int.toNat_natCast] at h0 h1 h2 h3 h4
                  clear hkl
                  go_quiet (fail)
                  go_wp2
                  clear h0 h1 h2 h3 h4 q0 q1 q2 q3 q4
                  have hb := pw_below_drewN (Below.refl wx.heap.size wx) nq
                  have n1 := Aside0.mk (Kd.R_below HRr.out hb); have n2 := Aside0.mk (Kd.R_below HRo.out hb); have n3 := Aside0.mk (below_step HW.out hb); clear HRr HRo HW; have HRr := n1; have HRo := n2; have HW := n3; clear n1 n2 n3
                  clear hb
                  generalize wx.drewN nq = wy at HRr HRo HW ⊢
                  go_loopg [15] kk (fun gg s1 wr => ∃ nn : Nat, nn ≤ kk ∧ kk - nn ≤ gg ∧ s1 = .int .i64 nn ∧ Aside0 (Kd.R k30 30 wr wc.heap.size (fun _ => True) (.slice A6 rs2.length c6) rs2) ∧ Aside0 (Kd.R k33 33 wr wc.heap.size (fun _ => True) (.slice (some ad6) os2.length c7) os2) ∧ Aside0 (Below wc.heap.size wc wr))
                  case atStart => exact ⟨0, Nat.zero_le _, by omega, rfl, HRr, HRo, HW⟩
                  case round =>
                    clear HRr HRo HW
                    obtain ⟨nn, hnn, hgn, rfl, HRr, HRo, HW⟩ := hrel
                    by_cases hnl : nn < kk
                    rotate_left
                    · have hnz : ¬ (nn : Int) < (kk : Int) := by omega
                      clear hnn hgn hnl
                      go_wp2
                      go_roundg (os2.length - (kk + 1))
                      case measure => have := HKL.out; have := HGK.out; omega
                      case rel => exact ⟨kk + 1, HKL.out, Nat.le_refl _, by have := HKL.out; have := HL2.out; refine congrArg _ ?_; unfold wrap64; omega, HRr, HRo, HW⟩
                    · have hnz : (nn : Int) < (kk : Int) := by omega
                      have h0n : (0 : Int) ≤ (nn : Int) := by omega
                      have hzn : (nn : Int) < (os2.length : Int) := by omega
                      have HNL := Aside0.mk hnl
                      have HGN := Aside0.mk hgn
                      have NE := Aside0.mk (once33_ne HI2.out.2.2.2 nn kk hnl HKL.out)
                      have hnm : nn < os2.length := by omega
                      have Z := Aside0.mk (show os2[nn] = rd_T33 os2 (nn : Int) by simp [rd_T33, hnm])
                      have bz : (rd_T33 os2 (nn : Int)).f0 ≠ y.f0 := by rw [← Z.out, ← Y.out]; exact NE.out
                      obtain ⟨ad_, ea, h0, h1, h2, h3, h4⟩ := at_T33 (Kd.R_reads' HRo.out).2.2 (nn : Int) (by omega) (by omega)
                      cases ea
                      rw [show rd_T33 os2 (nn : Int) = (rd_T33 os2 (nn : Int)) by rfl] at h0 h1 h2 h3 h4
                      simp only [Int.toNat_natCast] at h0 h1 h2 h3 h4
                      generalize rd_T33 os2 (nn : Int) = z at bz Z h0 h1 h2 h3 h4
                      have hkl : kk < os2.length := HKL.out
                      obtain ⟨ad_, ea, i0, i1, i2, i3, i4⟩ := at_T33 (Kd.R_reads' HRo.out).2.2 (kk : Int) (by omega) (by omega)
                      cases ea
                      rw [show rd_T33 os2 (kk : Int) = y by simp [rd_T33, hkl, Y.out]] at i0 i1 i2 i3 i4
                      simp only [Int.toNat_natCast] at i0 i1 i2 i3 i4
                      have bz' : ¬ z.f0 = y.f0 := bz
                      clear bz hnn hgn hnl hnm hkl NE Z
                      go_upto_region 40 with (fail)
                      go_quiet (fail)
                      go_wp2
                      clear bz' h0 h1 h2 h3 h4 i0 i1 i2 i3 i4
                      have hb := pw_below_drewN (Below.refl wr.heap.size wr) nq
                      have n1 := Aside0.mk (Kd.R_below HRr.out hb); have n2 := Aside0.mk (Kd.R_below HRo.out hb); have n3 := Aside0.mk (below_step HW.out hb); clear HRr HRo HW; have HRr := n1; have HRo := n2; have HW := n3; clear n1 n2 n3
                      clear hb
                      generalize wr.drewN nq = wz at HRr HRo HW ⊢
                      go_roundg (kk - (nn + 1))
                      case measure => have := HNL.out; have := HGN.out; omega
                      case rel => exact ⟨nn + 1, HNL.out, Nat.le_refl _, by have := HNL.out; have := HKL.out; have := HL2.out; refine congrArg _ ?_; unfold wrap64; omega, HRr, HRo, HW⟩
            · have hkz : (kk : Int) < (rs2.length : Int) := by omega
              have h0k : (0 : Int) ≤ (kk : Int) := by omega
              have HKL := Aside0.mk hkl
              have HGK := Aside0.mk hgk
              have HY := Aside0.mk (has30_self HI2.out.2.2.1 kk HKL.out)
              have hrd : rd_T30 rs2 (kk : Int) = rs2[kk]'(HKL.out) := by simp [rd_T30, hkl]
              obtain ⟨ad6, ea, h0, h1, h2⟩ := at_T30 (Kd.R_reads' HRr.out).2.2 (kk : Int) (by omega) (by omega)
              have EA := Aside0.mk ea
              subst ea
              rw [hrd] at h0 h1 h2
              simp only [Int.toNat_natCast] at h0 h1 h2
              generalize hy : rs2[kk]'(HKL.out) = y at hrd HY h0 h1 h2
              have Y := Aside0.mk hy
              clear hy hrd hkk hgk EA
              go_upto_region 24 with (first | ((with_reducible refine gate_callee (f := 18) rfl ?_); refine goesL_ (some 81) rfl rfl Try.func18 (by kernel_rfl) rfl #[.pointer (some ⟨g, 0, none⟩), .int .i64 y.f0] rfl (by (try simp only [List.map_toArray, List.map_cons, List.map_nil]); first | done | rfl | (simp only [List.length_drop, List.length_take]; rfl)) ?_; (refine (has30_callsE _ g rs2 os2 y.f0 _ (HS.out.below HW.out) (y, true) HY.out).mono ?_); rintro e w8 ⟨rfl, hb⟩; refine ⟨_, rfl, ?_⟩; clear h0 h1 h2; have n1 := Aside0.mk (Kd.R_below HRr.out hb); have n2 := Aside0.mk (Kd.R_below HRo.out hb); have n3 := Aside0.mk (below_step HW.out hb); clear HRr HRo HW; have HRr := n1; have HRo := n2; have HW := n3; clear n1 n2 n3; clear hb) | ((with_reducible refine gate_dst (N := 9) rfl ?_); refine box_event ?hg (N := 9) ?hd (cs := #[.int .i64 0, .int .i64 0, .int .i64 0]) (t := 30) ?hr ?_; (case hd => rfl); (case hg => rfl); (case hr => first | (go_simp; done) | (go_simp; rfl)); intro gx hgx w9 hbox hb; have GX := Aside0.mk (Nat.le_of_eq hgx.symm : w8.heap.size ≤ gx); have HV := Aside0.mk hb; have BK := Aside0.mk hbox; clear hgx hbox hb; have qK0 : World.cell? _ ⟨gx, 0, none⟩ = some (.int .i64 0) := (blk_cell BK.out 0).trans rfl; have zK0 : World.frozen? _ ⟨gx, 0, none⟩ = false := blk_frozen BK.out 0; have qK1 : World.cell? _ ⟨gx, 1, none⟩ = some (.int .i64 0) := (blk_cell BK.out 1).trans rfl; have zK1 : World.frozen? _ ⟨gx, 1, none⟩ = false := blk_frozen BK.out 1; have qK2 : World.cell? _ ⟨gx, 2, none⟩ = some (.int .i64 0) := (blk_cell BK.out 2).trans rfl; have zK2 : World.frozen? _ ⟨gx, 2, none⟩ = false := blk_frozen BK.out 2))
              have n0 := Aside0.mk (below_set (j := 2) (v := .int .i64 y.f2) (below_set (j := 1) (v := .int .i64 y.f1) (below_set (j := 0) (v := .int .i64 y.f0) HV.out GX.out) GX.out) GX.out)
              have BV : Aside0 (((World.setCell (World.setCell (World.setCell w9 ⟨gx, 0, none⟩ (.int .i64 y.f0)) ⟨gx, 1, none⟩ (.int .i64 y.f1)) ⟨gx, 2, none⟩ (.int .i64 y.f2))).heap[gx]? = some (.cells #[.int .i64 y.f0, .int .i64 y.f1, .int .i64 y.f2] 30 (0, 0))) := ⟨by refine blk_put (cs := #[.int .i64 y.f0, .int .i64 y.f1, .int .i64 0]) ?_ 2 _ rfl; refine blk_put (cs := #[.int .i64 y.f0, .int .i64 0, .int .i64 0]) ?_ 1 _ rfl; refine blk_put (cs := #[.int .i64 0, .int .i64 0, .int .i64 0]) ?_ 0 _ rfl; exact BK.out⟩
              clear HV BK qK0 zK0 qK1 zK1 qK2 zK2
              generalize (World.setCell (World.setCell (World.setCell w9 ⟨gx, 0, none⟩ (.int .i64 y.f0)) ⟨gx, 1, none⟩ (.int .i64 y.f1)) ⟨gx, 2, none⟩ (.int .i64 y.f2)) = wx at n0 BV ⊢
              have hb := n0.out
              have n1 := Aside0.mk (Kd.R_below HRr.out hb); have n2 := Aside0.mk (Kd.R_below HRo.out hb); have n3 := Aside0.mk (below_step HW.out hb); clear HRr HRo HW; have HRr := n1; have HRo := n2; have HW := n3; clear n1 n2 n3
              clear n0 hb
              have q0 : World.cell? wx ⟨gx, 0, none⟩ = some (.int .i64 y.f0) := (blk_cell BV.out 0).trans rfl
              have q1 : World.cell? wx ⟨gx, 1, none⟩ = some (.int .i64 y.f1) := (blk_cell BV.out 1).trans rfl
              have q2 : World.cell? wx ⟨gx, 2, none⟩ = some (.int .i64 y.f2) := (blk_cell BV.out 2).trans rfl
              clear BV GX
              obtain ⟨ad_, ea, h0, h1, h2⟩ := at_T30 (Kd.R_reads' HRr.out).2.2 (kk : Int) (by omega) (by omega)
              cases ea
              rw [show rd_T30 rs2 (kk : Int) = y by simp [rd_T30, hkl, Y.out]] at h0 h1 h2
              simp only [Int.toNat_natCast] at h0 h1 h2
              clear hkl
              go_quiet (fail)
              go_wp2
              clear h0 h1 h2 q0 q1 q2
              have hb := pw_below_drewN (Below.refl wx.heap.size wx) nq
              have n1 := Aside0.mk (Kd.R_below HRr.out hb); have n2 := Aside0.mk (Kd.R_below HRo.out hb); have n3 := Aside0.mk (below_step HW.out hb); clear HRr HRo HW; have HRr := n1; have HRo := n2; have HW := n3; clear n1 n2 n3
              clear hb
              generalize wx.drewN nq = wy at HRr HRo HW ⊢
              go_loopg [11] kk (fun gg s1 wr => ∃ nn : Nat, nn ≤ kk ∧ kk - nn ≤ gg ∧ s1 = .int .i64 nn ∧ Aside0 (Kd.R k30 30 wr wc.heap.size (fun _ => True) (.slice (some ad6) rs2.length c6) rs2) ∧ Aside0 (Kd.R k33 33 wr wc.heap.size (fun _ => True) (.slice A7 os2.length c7) os2) ∧ Aside0 (Below wc.heap.size wc wr))
              case atStart => exact ⟨0, Nat.zero_le _, by omega, rfl, HRr, HRo, HW⟩
              case round =>
                clear HRr HRo HW
                obtain ⟨nn, hnn, hgn, rfl, HRr, HRo, HW⟩ := hrel
                by_cases hnl : nn < kk
                rotate_left
                · have hnz : ¬ (nn : Int) < (kk : Int) := by omega
                  clear hnn hgn hnl
                  go_wp2
                  go_roundg (rs2.length - (kk + 1))
                  case measure => have := HKL.out; have := HGK.out; omega
                  case rel => exact ⟨kk + 1, HKL.out, Nat.le_refl _, by have := HKL.out; have := HL2.out; refine congrArg _ ?_; unfold wrap64; omega, HRr, HRo, HW⟩
                · have hnz : (nn : Int) < (kk : Int) := by omega
                  have h0n : (0 : Int) ≤ (nn : Int) := by omega
                  have hzn : (nn : Int) < (rs2.length : Int) := by omega
                  have HNL := Aside0.mk hnl
                  have HGN := Aside0.mk hgn
                  have NE := Aside0.mk (once30_ne HI2.out.2.2.1 nn kk hnl HKL.out)
                  have hnm : nn < rs2.length := by omega
                  have Z := Aside0.mk (show rs2[nn] = rd_T30 rs2 (nn : Int) by simp [rd_T30, hnm])
                  have bz : (rd_T30 rs2 (nn : Int)).f0 ≠ y.f0 := by rw [← Z.out, ← Y.out]; exact NE.out
                  obtain ⟨ad_, ea, h0, h1, h2⟩ := at_T30 (Kd.R_reads' HRr.out).2.2 (nn : Int) (by omega) (by omega)
                  cases ea
                  rw [show rd_T30 rs2 (nn : Int) = (rd_T30 rs2 (nn : Int)) by rfl] at h0 h1 h2
                  simp only [Int.toNat_natCast] at h0 h1 h2
                  generalize rd_T30 rs2 (nn : Int) = z at bz Z h0 h1 h2
                  have hkl : kk < rs2.length := HKL.out
                  obtain ⟨ad_, ea, i0, i1, i2⟩ := at_T30 (Kd.R_reads' HRr.out).2.2 (kk : Int) (by omega) (by omega)
                  cases ea
                  rw [show rd_T30 rs2 (kk : Int) = y by simp [rd_T30, hkl, Y.out]] at i0 i1 i2
                  simp only [Int.toNat_natCast] at i0 i1 i2
                  have bz' : ¬ z.f0 = y.f0 := bz
                  clear bz hnn hgn hnl hnm hkl NE Z
                  go_upto_region 29 with (fail)
                  go_quiet (fail)
                  go_wp2
                  clear bz' h0 h1 h2 i0 i1 i2
                  have hb := pw_below_drewN (Below.refl wr.heap.size wr) nq
                  have n1 := Aside0.mk (Kd.R_below HRr.out hb); have n2 := Aside0.mk (Kd.R_below HRo.out hb); have n3 := Aside0.mk (below_step HW.out hb); clear HRr HRo HW; have HRr := n1; have HRo := n2; have HW := n3; clear n1 n2 n3
                  clear hb
                  generalize wr.drewN nq = wz at HRr HRo HW ⊢
                  go_roundg (kk - (nn + 1))
                  case measure => have := HNL.out; have := HGN.out; omega
                  case rel => exact ⟨nn + 1, HNL.out, Nat.le_refl _, by have := HNL.out; have := HKL.out; have := HL2.out; refine congrArg _ ?_; unfold wrap64; omega, HRr, HRo, HW⟩

end Go.Proofs.Ytfiniikeoemleaa.R
