/- Part 3 of the proof of scriptWrites_holds. Conditions stand in each theorem; nothing is assumed. Gathered by a program of this session out of its texts and the kit's words. -/
import Derived.Test.YthfkgnkojhocbaaZW2
section
namespace Go.Proofs.Ythfkgnkojhocbaa.S
open Go.RowKit Go.Proofs.YthfkgnkojhocbaaW.PrintWords Go.Proofs.YthfkgnkojhocbaaW.PrintLast Go.Proofs.YthfkgnkojhocbaaW.PrintMore
attribute [local go_sem] max2_int min2_int max_two min_two max_three min_three max_four min_four
set_option linter.unusedVariables false
set_option linter.unusedSimpArgs false
mutual
def quarrellaw16_Great.j0 : Nat → Bool → Int → Int → Int → Int → Int → Int → List Int → List Int → List (List (List (S80))) → Option (Int)
  | 0, _, _, _, _, _, _, _, _, _, _ => none
  | k + 1, x20, x236000, x236001, x236002, x236003, x236004, x236005, x236006, x236007, x236008 => if x20 = true then (some 1) else (quarrellaw16_Great.l0 k 0 x236000 x236001 x236002 x236003 x236004 x236005 x236006 x236007 x236008)
def quarrellaw16_Great.l0 : Nat → Int → Int → Int → Int → Int → Int → Int → List Int → List Int → List (List (List (S80))) → Option (Int)
  | 0, _, _, _, _, _, _, _, _, _, _ => none
  | k + 1, x3, x236000, x236001, x236002, x236003, x236004, x236005, x236006, x236007, x236008 => if x3 < (x236008.length : Int) then (if 0 ≤ x3 then (if ((rd_L7 x236008 x3).length : Int) > 20 then (some 1) else (quarrellaw16_Great.l1 k x3 0 x236000 x236001 x236002 x236003 x236004 x236005 x236006 x236007 x236008)) else (none)) else (some 0)
def quarrellaw16_Great.l1 : Nat → Int → Int → Int → Int → Int → Int → Int → Int → List Int → List Int → List (List (List (S80))) → Option (Int)
  | 0, _, _, _, _, _, _, _, _, _, _, _ => none
  | k + 1, x3, x4, x236000, x236001, x236002, x236003, x236004, x236005, x236006, x236007, x236008 => if 0 ≤ x3 then (if x3 < (x236008.length : Int) then (if x4 < ((rd_L7 x236008 x3).length : Int) then (if 0 ≤ x4 then (if ((rd_L6 (rd_L7 x236008 x3) x4).length : Int) > 20 then (some 1) else (quarrellaw16_Great.l1 k x3 (wrap64 (x4 + 1)) x236000 x236001 x236002 x236003 x236004 x236005 x236006 x236007 x236008)) else (none)) else (quarrellaw16_Great.l0 k (wrap64 (x3 + 1)) x236000 x236001 x236002 x236003 x236004 x236005 x236006 x236007 x236008)) else (none)) else (none)
end
def quarrellaw16_Great.f (k : Nat) (a0_0 : Int) (a0_1 : Int) (a0_2 : Int) (a0_3 : Int) (a0_4 : Int) (a0_5 : Int) (l0_6 : List Int) (l0_7 : List Int) (l0_8 : List (List (List (S80)))) : Option (Int) := if (l0_6.length : Int) > 20 then (quarrellaw16_Great.j0 k true a0_0 a0_1 a0_2 a0_3 a0_4 a0_5 l0_6 l0_7 l0_8) else (if (l0_7.length : Int) > 50 then (quarrellaw16_Great.j0 k true a0_0 a0_1 a0_2 a0_3 a0_4 a0_5 l0_6 l0_7 l0_8) else (quarrellaw16_Great.j0 k (decide ((l0_8.length : Int) > 10)) a0_0 a0_1 a0_2 a0_3 a0_4 a0_5 l0_6 l0_7 l0_8))
theorem quarrellaw16_Great.mono_l : ∀ k, (∀ y0 y1 y2 y3 y4 y5 y6 y7 y8 y9, LeO (quarrellaw16_Great.j0 k y0 y1 y2 y3 y4 y5 y6 y7 y8 y9) (quarrellaw16_Great.j0 (k + 1) y0 y1 y2 y3 y4 y5 y6 y7 y8 y9)) ∧ (∀ y0 y1 y2 y3 y4 y5 y6 y7 y8 y9, LeO (quarrellaw16_Great.l0 k y0 y1 y2 y3 y4 y5 y6 y7 y8 y9) (quarrellaw16_Great.l0 (k + 1) y0 y1 y2 y3 y4 y5 y6 y7 y8 y9)) ∧ (∀ y0 y1 y2 y3 y4 y5 y6 y7 y8 y9 y10, LeO (quarrellaw16_Great.l1 k y0 y1 y2 y3 y4 y5 y6 y7 y8 y9 y10) (quarrellaw16_Great.l1 (k + 1) y0 y1 y2 y3 y4 y5 y6 y7 y8 y9 y10))
  | 0 => ⟨fun _ _ _ _ _ _ _ _ _ _ r h => by simp [quarrellaw16_Great.j0] at h, fun _ _ _ _ _ _ _ _ _ _ r h => by simp [quarrellaw16_Great.l0] at h, fun _ _ _ _ _ _ _ _ _ _ _ r h => by simp [quarrellaw16_Great.l1] at h⟩
  | k + 1 => by
    obtain ⟨ih0, ih1, ih2⟩ := quarrellaw16_Great.mono_l k
    refine ⟨?_, ?_, ?_⟩
    · intro y0 y1 y2 y3 y4 y5 y6 y7 y8 y9
      unfold quarrellaw16_Great.j0
      repeat' first
      | (with_reducible exact ih0 _ _ _ _ _ _ _ _ _ _)
      | (with_reducible exact ih1 _ _ _ _ _ _ _ _ _ _)
      | (with_reducible exact ih2 _ _ _ _ _ _ _ _ _ _ _)
      | (with_reducible exact LeO.refl _)
      | (with_reducible exact LeO.none _)
      | (with_reducible refine LeO.ite ?_ ?_)
      | (with_reducible refine LeO.bind ?_ (fun _ => ?_))
      | exact ih0 _ _ _ _ _ _ _ _ _ _
      | exact ih1 _ _ _ _ _ _ _ _ _ _
      | exact ih2 _ _ _ _ _ _ _ _ _ _ _
      | exact LeO.none _
      | refine LeO.ite ?_ ?_
      | refine LeO.bind ?_ (fun _ => ?_)
    · intro y0 y1 y2 y3 y4 y5 y6 y7 y8 y9
      unfold quarrellaw16_Great.l0
      repeat' first
      | (with_reducible exact ih0 _ _ _ _ _ _ _ _ _ _)
      | (with_reducible exact ih1 _ _ _ _ _ _ _ _ _ _)
      | (with_reducible exact ih2 _ _ _ _ _ _ _ _ _ _ _)
      | (with_reducible exact LeO.refl _)
      | (with_reducible exact LeO.none _)
      | (with_reducible refine LeO.ite ?_ ?_)
      | (with_reducible refine LeO.bind ?_ (fun _ => ?_))
      | exact ih0 _ _ _ _ _ _ _ _ _ _
      | exact ih1 _ _ _ _ _ _ _ _ _ _
      | exact ih2 _ _ _ _ _ _ _ _ _ _ _
      | exact LeO.none _
      | refine LeO.ite ?_ ?_
      | refine LeO.bind ?_ (fun _ => ?_)
    · intro y0 y1 y2 y3 y4 y5 y6 y7 y8 y9 y10
      unfold quarrellaw16_Great.l1
      repeat' first
      | (with_reducible exact ih0 _ _ _ _ _ _ _ _ _ _)
      | (with_reducible exact ih1 _ _ _ _ _ _ _ _ _ _)
      | (with_reducible exact ih2 _ _ _ _ _ _ _ _ _ _ _)
      | (with_reducible exact LeO.refl _)
      | (with_reducible exact LeO.none _)
      | (with_reducible refine LeO.ite ?_ ?_)
      | (with_reducible refine LeO.bind ?_ (fun _ => ?_))
      | exact ih0 _ _ _ _ _ _ _ _ _ _
      | exact ih1 _ _ _ _ _ _ _ _ _ _
      | exact ih2 _ _ _ _ _ _ _ _ _ _ _
      | exact LeO.none _
      | refine LeO.ite ?_ ?_
      | refine LeO.bind ?_ (fun _ => ?_)
theorem quarrellaw16_Great.mono : ∀ a0 a1 a2 a3 a4 a5 a6 a7 a8 k, LeO (quarrellaw16_Great.f k a0 a1 a2 a3 a4 a5 a6 a7 a8) (quarrellaw16_Great.f (k + 1) a0 a1 a2 a3 a4 a5 a6 a7 a8) := by
  intro a0 a1 a2 a3 a4 a5 a6 a7 a8 k
  obtain ⟨ih0, ih1, ih2⟩ := quarrellaw16_Great.mono_l k
  unfold quarrellaw16_Great.f
  repeat' first
      | (with_reducible exact ih0 _ _ _ _ _ _ _ _ _ _)
      | (with_reducible exact ih1 _ _ _ _ _ _ _ _ _ _)
      | (with_reducible exact ih2 _ _ _ _ _ _ _ _ _ _ _)
      | (with_reducible exact LeO.refl _)
      | (with_reducible exact LeO.none _)
      | (with_reducible refine LeO.ite ?_ ?_)
      | (with_reducible refine LeO.bind ?_ (fun _ => ?_))
      | exact ih0 _ _ _ _ _ _ _ _ _ _
      | exact ih1 _ _ _ _ _ _ _ _ _ _
      | exact ih2 _ _ _ _ _ _ _ _ _ _ _
      | exact LeO.none _
      | refine LeO.ite ?_ ?_
      | refine LeO.bind ?_ (fun _ => ?_)
set_option maxHeartbeats 8000000 in
set_option maxRecDepth 100000 in
theorem quarrellaw16_Great.calls (k : Nat) (a0_0 : Int) (a0_1 : Int) (a0_2 : Int) (a0_3 : Int) (a0_4 : Int) (a0_5 : Int) (A0_6 : Option Addr) (c0_6 : Nat) (l0_6 : List Int) (A0_7 : Option Addr) (c0_7 : Nat) (l0_7 : List Int) (A0_8 : Option Addr) (c0_8 : Nat) (l0_8 : List (List (List (S80)))) (r : Int) (w : World) (hr0_6 : Kd.C (Kd.int .i64) w A0_6 l0_6.length l0_6) (hc0_6 : l0_6.length ≤ c0_6) (hr0_7 : Kd.C (Kd.int .u8) w A0_7 l0_7.length l0_7) (hc0_7 : l0_7.length ≤ c0_7) (hr0_8 : Kd.C (Kd.slice 61 (Kd.slice 80 k80)) w A0_8 l0_8.length l0_8) (hc0_8 : l0_8.length ≤ c0_8) (h : quarrellaw16_Great.f k a0_0 a0_1 a0_2 a0_3 a0_4 a0_5 l0_6 l0_7 l0_8 = some r) :
  Calls Try.prog 30 #[.agg #[.int .i64 a0_0, .int .i64 a0_1, .int .i64 a0_2, .int .i64 a0_3, .int .i64 a0_4, .int .i64 a0_5, .slice A0_6 l0_6.length c0_6, .slice A0_7 l0_7.length c0_7, .slice A0_8 l0_8.length c0_8]] w fun e w' => e = .returned (.int .i64 r) ∧ Below w.heap.size w w' := by
 have hu68 := Try.underlying68
 have HR0_6 := Aside0.mk hr0_6
 have HC0_6 := Aside0.mk hc0_6
 clear hr0_6 hc0_6
 have HR0_7 := Aside0.mk hr0_7
 have HC0_7 := Aside0.mk hc0_7
 clear hr0_7 hc0_7
 have HR0_8 := Aside0.mk hr0_8
 have HC0_8 := Aside0.mk hc0_8
 clear hr0_8 hc0_8
 have HB := Aside0.mk (Below.refl w.heap.size w)
 have H : (if (l0_6.length : Int) > 20 then (quarrellaw16_Great.j0 k true a0_0 a0_1 a0_2 a0_3 a0_4 a0_5 l0_6 l0_7 l0_8) else (if (l0_7.length : Int) > 50 then (quarrellaw16_Great.j0 k true a0_0 a0_1 a0_2 a0_3 a0_4 a0_5 l0_6 l0_7 l0_8) else (quarrellaw16_Great.j0 k (decide ((l0_8.length : Int) > 10)) a0_0 a0_1 a0_2 a0_3 a0_4 a0_5 l0_6 l0_7 l0_8))) = some r := h
 clear h
 have HC2 := Aside0.mk H
 clear H
 go_enter Try.func30, Try.ntmps30
 go_upto_region 1 with (first | ((with_reducible refine gate_dst (N := 1) rfl ?_); (try (refine gate_guard (by rfl) ?_; dsimp only)); refine box_event ?hg (N := 1) ?hd (cs := #[.int .i64 a0_0, .int .i64 a0_1, .int .i64 a0_2, .int .i64 a0_3, .int .i64 a0_4, .int .i64 a0_5, .slice A0_6 l0_6.length c0_6, .slice A0_7 l0_7.length c0_7, .slice A0_8 l0_8.length c0_8]) (t := 68) ?hr ?_; (case hd => rfl); (case hg => rfl); (case hr => first | (go_simp; done) | (go_simp; rfl)); intro gb235 hg w3 hbox hb; have n0_ := Aside0.mk (below_step (by repeat (first | (with_reducible first | exact HB.out | apply bwA | apply bwN | apply bw1) | exact HB.out)) hb); have n1_ := Aside0.mk (hbox); have n2_ := Aside0.mk ((by rw [hg]; exact (below_size (by repeat (first | (with_reducible first | exact HB.out | apply bwA | apply bwN | apply bw1) | exact HB.out))) : w.heap.size ≤ gb235)); have n3_ := Aside0.mk ((by rw [hg]; exact (below_size (by repeat (first | (with_reducible first | exact HB.out | apply bwA | apply bwN | apply bw1) | exact HB.out))) : w.heap.size ≤ gb235)); clear HB; have HB := n0_; have BK235 := n1_; have GW235 := n2_; have GE235 := n3_; clear n0_ n1_ n2_ n3_; clear hb hbox hg))
 (try simp only [Act.put, List.setIfInBounds_toArray, List.set_cons_zero, List.set_cons_succ])
 go_cut [20] (fun v20 wc => ∃ (kq : Nat) (x20_1 : Bool), v20 = .bool x20_1 ∧ Aside0 (quarrellaw16_Great.j0 kq x20_1 a0_0 a0_1 a0_2 a0_3 a0_4 a0_5 l0_6 l0_7 l0_8 = some r) ∧ Aside0 (kq ≤ k) ∧ Aside0 (wc.heap[gb235]? = some (.cells #[.int .i64 a0_0, .int .i64 a0_1, .int .i64 a0_2, .int .i64 a0_3, .int .i64 a0_4, .int .i64 a0_5, (.slice A0_6 l0_6.length c0_6), (.slice A0_7 l0_7.length c0_7), (.slice A0_8 l0_8.length c0_8)] 68 (0, 0))) ∧ Aside0 (Below w.heap.size w wc))
 case first =>
  have H := HC2.out
  clear HC2
  by_cases c4 : (l0_6.length : Int) > 20
  ·rw [if_pos c4] at H
   have c4b0 : decide (20 < (l0_6.length : Int)) = true := decide_eq_true c4
   have c4b1 : decide (20 < l0_6.length) = true := decide_eq_true (by omega)
   clear c4
   (first | rw [c4b0] | (simp only [i64_w, i32_w]; rw [c4b0]) | skip)
   have H' := Aside0.mk H
   clear H
   have hcz5_0 : w3.cell? ⟨gb235, 0, none⟩ = some (.int .i64 a0_0) := (blk_cell BK235.out 0).trans rfl
   have hcz5_1 : w3.cell? ⟨gb235, 1, none⟩ = some (.int .i64 a0_1) := (blk_cell BK235.out 1).trans rfl
   have hcz5_2 : w3.cell? ⟨gb235, 2, none⟩ = some (.int .i64 a0_2) := (blk_cell BK235.out 2).trans rfl
   have hcz5_3 : w3.cell? ⟨gb235, 3, none⟩ = some (.int .i64 a0_3) := (blk_cell BK235.out 3).trans rfl
   have hcz5_4 : w3.cell? ⟨gb235, 4, none⟩ = some (.int .i64 a0_4) := (blk_cell BK235.out 4).trans rfl
   have hcz5_5 : w3.cell? ⟨gb235, 5, none⟩ = some (.int .i64 a0_5) := (blk_cell BK235.out 5).trans rfl
   have hcz5_6 : w3.cell? ⟨gb235, 6, none⟩ = some (.slice A0_6 l0_6.length c0_6) := (blk_cell BK235.out 6).trans rfl
   have hcz5_7 : w3.cell? ⟨gb235, 7, none⟩ = some (.slice A0_7 l0_7.length c0_7) := (blk_cell BK235.out 7).trans rfl
   have hcz5_8 : w3.cell? ⟨gb235, 8, none⟩ = some (.slice A0_8 l0_8.length c0_8) := (blk_cell BK235.out 8).trans rfl
   have hfz5_0 := blk_frozen BK235.out 0
   have hfz5_1 := blk_frozen BK235.out 1
   have hfz5_2 := blk_frozen BK235.out 2
   have hfz5_3 := blk_frozen BK235.out 3
   have hfz5_4 := blk_frozen BK235.out 4
   have hfz5_5 := blk_frozen BK235.out 5
   have hfz5_6 := blk_frozen BK235.out 6
   have hfz5_7 := blk_frozen BK235.out 7
   have hfz5_8 := blk_frozen BK235.out 8
   go_wp2
   go_meet
   case rel => exact ⟨_, (true), (by first | rfl | (simp; done) | (simp [*]; done)), H', ⟨by first | omega | exact Nat.le_refl _⟩, ⟨by (with_reducible repeat (first | refine blk_drewN ?_ _ | refine blk_drew ?_ | refine blk_alloc ?_ _)); exact BK235.out⟩, ⟨by repeat (first | (with_reducible first | exact HB.out | apply bwA | apply bwN | apply bw1 | refine bwS ?_ GE235.out) | exact HB.out)⟩⟩
  ·rw [if_neg c4] at H
   have c4b0 : decide (20 < (l0_6.length : Int)) = false := decide_eq_false c4
   have c4b1 : decide (20 < l0_6.length) = false := decide_eq_false (by omega)
   clear c4
   (first | rw [c4b0] | (simp only [i64_w, i32_w]; rw [c4b0]) | skip)
   by_cases c6 : (l0_7.length : Int) > 50
   ·rw [if_pos c6] at H
    have c6b0 : decide (50 < (l0_7.length : Int)) = true := decide_eq_true c6
    have c6b1 : decide (50 < l0_7.length) = true := decide_eq_true (by omega)
    clear c6
    have H' := Aside0.mk H
    clear H
    have hcz7_0 : w3.cell? ⟨gb235, 0, none⟩ = some (.int .i64 a0_0) := (blk_cell BK235.out 0).trans rfl
    have hcz7_1 : w3.cell? ⟨gb235, 1, none⟩ = some (.int .i64 a0_1) := (blk_cell BK235.out 1).trans rfl
    have hcz7_2 : w3.cell? ⟨gb235, 2, none⟩ = some (.int .i64 a0_2) := (blk_cell BK235.out 2).trans rfl
    have hcz7_3 : w3.cell? ⟨gb235, 3, none⟩ = some (.int .i64 a0_3) := (blk_cell BK235.out 3).trans rfl
    have hcz7_4 : w3.cell? ⟨gb235, 4, none⟩ = some (.int .i64 a0_4) := (blk_cell BK235.out 4).trans rfl
    have hcz7_5 : w3.cell? ⟨gb235, 5, none⟩ = some (.int .i64 a0_5) := (blk_cell BK235.out 5).trans rfl
    have hcz7_6 : w3.cell? ⟨gb235, 6, none⟩ = some (.slice A0_6 l0_6.length c0_6) := (blk_cell BK235.out 6).trans rfl
    have hcz7_7 : w3.cell? ⟨gb235, 7, none⟩ = some (.slice A0_7 l0_7.length c0_7) := (blk_cell BK235.out 7).trans rfl
    have hcz7_8 : w3.cell? ⟨gb235, 8, none⟩ = some (.slice A0_8 l0_8.length c0_8) := (blk_cell BK235.out 8).trans rfl
    have hfz7_0 := blk_frozen BK235.out 0
    have hfz7_1 := blk_frozen BK235.out 1
    have hfz7_2 := blk_frozen BK235.out 2
    have hfz7_3 := blk_frozen BK235.out 3
    have hfz7_4 := blk_frozen BK235.out 4
    have hfz7_5 := blk_frozen BK235.out 5
    have hfz7_6 := blk_frozen BK235.out 6
    have hfz7_7 := blk_frozen BK235.out 7
    have hfz7_8 := blk_frozen BK235.out 8
    go_wp2
    go_meet
    case rel => exact ⟨_, (true), (by first | rfl | (simp; done) | (simp [*]; done)), H', ⟨by first | omega | exact Nat.le_refl _⟩, ⟨by (with_reducible repeat (first | refine blk_drewN ?_ _ | refine blk_drew ?_ | refine blk_alloc ?_ _)); exact BK235.out⟩, ⟨by repeat (first | (with_reducible first | exact HB.out | apply bwA | apply bwN | apply bw1 | refine bwS ?_ GE235.out) | exact HB.out)⟩⟩
   ·rw [if_neg c6] at H
    have c6b0 : decide (50 < (l0_7.length : Int)) = false := decide_eq_false c6
    have c6b1 : decide (50 < l0_7.length) = false := decide_eq_false (by omega)
    clear c6
    have H' := Aside0.mk H
    clear H
    have hcz8_0 : w3.cell? ⟨gb235, 0, none⟩ = some (.int .i64 a0_0) := (blk_cell BK235.out 0).trans rfl
    have hcz8_1 : w3.cell? ⟨gb235, 1, none⟩ = some (.int .i64 a0_1) := (blk_cell BK235.out 1).trans rfl
    have hcz8_2 : w3.cell? ⟨gb235, 2, none⟩ = some (.int .i64 a0_2) := (blk_cell BK235.out 2).trans rfl
    have hcz8_3 : w3.cell? ⟨gb235, 3, none⟩ = some (.int .i64 a0_3) := (blk_cell BK235.out 3).trans rfl
    have hcz8_4 : w3.cell? ⟨gb235, 4, none⟩ = some (.int .i64 a0_4) := (blk_cell BK235.out 4).trans rfl
    have hcz8_5 : w3.cell? ⟨gb235, 5, none⟩ = some (.int .i64 a0_5) := (blk_cell BK235.out 5).trans rfl
    have hcz8_6 : w3.cell? ⟨gb235, 6, none⟩ = some (.slice A0_6 l0_6.length c0_6) := (blk_cell BK235.out 6).trans rfl
    have hcz8_7 : w3.cell? ⟨gb235, 7, none⟩ = some (.slice A0_7 l0_7.length c0_7) := (blk_cell BK235.out 7).trans rfl
    have hcz8_8 : w3.cell? ⟨gb235, 8, none⟩ = some (.slice A0_8 l0_8.length c0_8) := (blk_cell BK235.out 8).trans rfl
    have hfz8_0 := blk_frozen BK235.out 0
    have hfz8_1 := blk_frozen BK235.out 1
    have hfz8_2 := blk_frozen BK235.out 2
    have hfz8_3 := blk_frozen BK235.out 3
    have hfz8_4 := blk_frozen BK235.out 4
    have hfz8_5 := blk_frozen BK235.out 5
    have hfz8_6 := blk_frozen BK235.out 6
    have hfz8_7 := blk_frozen BK235.out 7
    have hfz8_8 := blk_frozen BK235.out 8
    go_wp2
    go_meet
    case rel => exact ⟨_, (decide ((l0_8.length : Int) > 10)), (by first | rfl | (simp; done) | (simp [*]; done)), H', ⟨by first | omega | exact Nat.le_refl _⟩, ⟨by (with_reducible repeat (first | refine blk_drewN ?_ _ | refine blk_drew ?_ | refine blk_alloc ?_ _)); exact BK235.out⟩, ⟨by repeat (first | (with_reducible first | exact HB.out | apply bwA | apply bwN | apply bw1 | refine bwS ?_ GE235.out) | exact HB.out)⟩⟩
 case rest =>
  clear HC2
  obtain ⟨kq, x20_1, rfl, HA, HJ1, BK235, HB⟩ := hcut
  cases kq with
  | zero => exact absurd HA.out (by simp [quarrellaw16_Great.j0])
  | succ kj1 =>
   have H := HA.out
   clear HA
   simp only [quarrellaw16_Great.j0] at H
   by_cases c9 : x20_1 = true
   ·subst c9
    have H1 : (some 1) = some r := by rw [if_pos rfl] at H; exact H
    clear H
    have H := H1
    clear H1
    obtain rfl := Option.some.inj H
    go_wp2
    go_ret
    exact ⟨by first | rfl | (simp [errW_none, errW_some] <;> rfl) | (simp [*, errW_none, errW_some] <;> rfl), by repeat (first | (with_reducible first | exact HB.out | apply bwA | apply bwN | apply bw1 | refine bwS ?_ GE235.out) | exact HB.out)⟩
   ·replace c9 := Bool.eq_false_iff.mpr c9
    subst c9
    have H1 : (quarrellaw16_Great.l0 kj1 0 a0_0 a0_1 a0_2 a0_3 a0_4 a0_5 l0_6 l0_7 l0_8) = some r := by rw [if_neg (show ¬ (false = true) by decide)] at H; exact H
    clear H
    have H := H1
    clear H1
    have H' := Aside0.mk H
    clear H
    go_wp2
    go_loopg [3] kj1 (fun kq v3 w' => ∃ (x3_2 : Int), v3 = .int .i64 x3_2 ∧ Aside0 (quarrellaw16_Great.l0 kq x3_2 a0_0 a0_1 a0_2 a0_3 a0_4 a0_5 l0_6 l0_7 l0_8 = some r) ∧ Aside0 (kq ≤ kj1) ∧ Aside0 (w'.heap[gb235]? = some (.cells #[.int .i64 a0_0, .int .i64 a0_1, .int .i64 a0_2, .int .i64 a0_3, .int .i64 a0_4, .int .i64 a0_5, (.slice A0_6 l0_6.length c0_6), (.slice A0_7 l0_7.length c0_7), (.slice A0_8 l0_8.length c0_8)] 68 (0, 0))) ∧ Aside0 (Below w.heap.size w w'))
    case atStart => exact ⟨(0), (by first | rfl | (simp; done) | (simp [*]; done)), H', ⟨Nat.le_refl _⟩, ⟨by (with_reducible repeat (first | refine blk_drewN ?_ _ | refine blk_drew ?_ | refine blk_alloc ?_ _)); exact BK235.out⟩, ⟨by repeat (first | (with_reducible first | exact HB.out | apply bwA | apply bwN | apply bw1 | refine bwS ?_ GE235.out) | exact HB.out)⟩⟩
    case round =>
     clear H'
     try clear c9
     obtain ⟨x3_2, rfl, HA, HK2, BK235, HB⟩ := hrel
     cases gk with
     | zero => exact absurd HA.out (by simp [quarrellaw16_Great.l0])
     | succ k2 =>
      have H := HA.out
      clear HA
      simp only [quarrellaw16_Great.l0] at H
      by_cases c10 : x3_2 < (l0_8.length : Int)
      ·rw [if_pos c10] at H
       have c10b0 : decide (x3_2 < (l0_8.length : Int)) = true := decide_eq_true c10
       clear c10
       by_cases c11 : 0 ≤ x3_2
       ·rw [if_pos c11] at H
        have c11b0 : decide (0 ≤ x3_2) = true := decide_eq_true c11
        clear c11
        by_cases c12 : ((rd_L7 l0_8 x3_2).length : Int) > 20
        ·rw [if_pos c12] at H
         have c12b0 : decide (20 < ((rd_L7 l0_8 x3_2).length : Int)) = true := decide_eq_true c12
         have c12b1 : decide (20 < (rd_L7 l0_8 x3_2).length) = true := decide_eq_true (by omega)
         clear c12
         obtain rfl := Option.some.inj H
         have hcz13_0 : wr.cell? ⟨gb235, 0, none⟩ = some (.int .i64 a0_0) := (blk_cell BK235.out 0).trans rfl
         have hcz13_1 : wr.cell? ⟨gb235, 1, none⟩ = some (.int .i64 a0_1) := (blk_cell BK235.out 1).trans rfl
         have hcz13_2 : wr.cell? ⟨gb235, 2, none⟩ = some (.int .i64 a0_2) := (blk_cell BK235.out 2).trans rfl
         have hcz13_3 : wr.cell? ⟨gb235, 3, none⟩ = some (.int .i64 a0_3) := (blk_cell BK235.out 3).trans rfl
         have hcz13_4 : wr.cell? ⟨gb235, 4, none⟩ = some (.int .i64 a0_4) := (blk_cell BK235.out 4).trans rfl
         have hcz13_5 : wr.cell? ⟨gb235, 5, none⟩ = some (.int .i64 a0_5) := (blk_cell BK235.out 5).trans rfl
         have hcz13_6 : wr.cell? ⟨gb235, 6, none⟩ = some (.slice A0_6 l0_6.length c0_6) := (blk_cell BK235.out 6).trans rfl
         have hcz13_7 : wr.cell? ⟨gb235, 7, none⟩ = some (.slice A0_7 l0_7.length c0_7) := (blk_cell BK235.out 7).trans rfl
         have hcz13_8 : wr.cell? ⟨gb235, 8, none⟩ = some (.slice A0_8 l0_8.length c0_8) := (blk_cell BK235.out 8).trans rfl
         have hfz13_0 := blk_frozen BK235.out 0
         have hfz13_1 := blk_frozen BK235.out 1
         have hfz13_2 := blk_frozen BK235.out 2
         have hfz13_3 := blk_frozen BK235.out 3
         have hfz13_4 := blk_frozen BK235.out 4
         have hfz13_5 := blk_frozen BK235.out 5
         have hfz13_6 := blk_frozen BK235.out 6
         have hfz13_7 := blk_frozen BK235.out 7
         have hfz13_8 := blk_frozen BK235.out 8
         have p236 : 0 ≤ (x3_2 : Int) := of_decide_eq_true (by first | (with_reducible assumption) | assumption)
         have q236 : x3_2 < (l0_8.length : Int) := of_decide_eq_true (by first | (with_reducible assumption) | assumption)
         obtain ⟨ad236, A236_0, c236_0, e236, hx236_0, hl236_0, hi236_0⟩ := at_L7 HR0_8.out x3_2 p236 q236
         cases e236
         replace hx236_0 := (HB.out.cell (World.block_lt_of_cell? w _ hx236_0)).trans hx236_0
         have HR236_0 := Aside0.mk hi236_0
         have HC236_0 := Aside0.mk hl236_0
         clear hi236_0 hl236_0
         replace p236 := eq_true p236
         replace q236 := eq_true q236
         go_wp2
         go_ret
         exact ⟨by first | rfl | (simp [errW_none, errW_some] <;> rfl) | (simp [*, errW_none, errW_some] <;> rfl), by repeat (first | (with_reducible first | exact HB.out | apply bwA | apply bwN | apply bw1 | refine bwS ?_ GE235.out) | exact HB.out)⟩
        ·rw [if_neg c12] at H
         have c12b0 : decide (20 < ((rd_L7 l0_8 x3_2).length : Int)) = false := decide_eq_false c12
         have c12b1 : decide (20 < (rd_L7 l0_8 x3_2).length) = false := decide_eq_false (by omega)
         clear c12
         have H' := Aside0.mk H
         clear H
         have hcz14_0 : wr.cell? ⟨gb235, 0, none⟩ = some (.int .i64 a0_0) := (blk_cell BK235.out 0).trans rfl
         have hcz14_1 : wr.cell? ⟨gb235, 1, none⟩ = some (.int .i64 a0_1) := (blk_cell BK235.out 1).trans rfl
         have hcz14_2 : wr.cell? ⟨gb235, 2, none⟩ = some (.int .i64 a0_2) := (blk_cell BK235.out 2).trans rfl
         have hcz14_3 : wr.cell? ⟨gb235, 3, none⟩ = some (.int .i64 a0_3) := (blk_cell BK235.out 3).trans rfl
         have hcz14_4 : wr.cell? ⟨gb235, 4, none⟩ = some (.int .i64 a0_4) := (blk_cell BK235.out 4).trans rfl
         have hcz14_5 : wr.cell? ⟨gb235, 5, none⟩ = some (.int .i64 a0_5) := (blk_cell BK235.out 5).trans rfl
         have hcz14_6 : wr.cell? ⟨gb235, 6, none⟩ = some (.slice A0_6 l0_6.length c0_6) := (blk_cell BK235.out 6).trans rfl
         have hcz14_7 : wr.cell? ⟨gb235, 7, none⟩ = some (.slice A0_7 l0_7.length c0_7) := (blk_cell BK235.out 7).trans rfl
         have hcz14_8 : wr.cell? ⟨gb235, 8, none⟩ = some (.slice A0_8 l0_8.length c0_8) := (blk_cell BK235.out 8).trans rfl
         have hfz14_0 := blk_frozen BK235.out 0
         have hfz14_1 := blk_frozen BK235.out 1
         have hfz14_2 := blk_frozen BK235.out 2
         have hfz14_3 := blk_frozen BK235.out 3
         have hfz14_4 := blk_frozen BK235.out 4
         have hfz14_5 := blk_frozen BK235.out 5
         have hfz14_6 := blk_frozen BK235.out 6
         have hfz14_7 := blk_frozen BK235.out 7
         have hfz14_8 := blk_frozen BK235.out 8
         have p236 : 0 ≤ (x3_2 : Int) := of_decide_eq_true (by first | (with_reducible assumption) | assumption)
         have q236 : x3_2 < (l0_8.length : Int) := of_decide_eq_true (by first | (with_reducible assumption) | assumption)
         obtain ⟨ad236, A236_0, c236_0, e236, hx236_0, hl236_0, hi236_0⟩ := at_L7 HR0_8.out x3_2 p236 q236
         cases e236
         replace hx236_0 := (HB.out.cell (World.block_lt_of_cell? w _ hx236_0)).trans hx236_0
         have HR236_0 := Aside0.mk hi236_0
         have HC236_0 := Aside0.mk hl236_0
         clear hi236_0 hl236_0
         replace p236 := eq_true p236
         replace q236 := eq_true q236
         go_wp2
         go_loopg [4] k2 (fun kq v4 w' => ∃ (x4_3 : Int), v4 = .int .i64 x4_3 ∧ Aside0 (quarrellaw16_Great.l1 kq x3_2 x4_3 a0_0 a0_1 a0_2 a0_3 a0_4 a0_5 l0_6 l0_7 l0_8 = some r) ∧ Aside0 (kq ≤ k2) ∧ Aside0 (w'.heap[gb235]? = some (.cells #[.int .i64 a0_0, .int .i64 a0_1, .int .i64 a0_2, .int .i64 a0_3, .int .i64 a0_4, .int .i64 a0_5, (.slice A0_6 l0_6.length c0_6), (.slice A0_7 l0_7.length c0_7), (.slice (some ad236) l0_8.length c0_8)] 68 (0, 0))) ∧ Aside0 (Below w.heap.size w w'))
         case atStart => exact ⟨(0), (by first | rfl | (simp; done) | (simp [*]; done)), H', ⟨Nat.le_refl _⟩, ⟨by (with_reducible repeat (first | refine blk_drewN ?_ _ | refine blk_drew ?_ | refine blk_alloc ?_ _)); exact BK235.out⟩, ⟨by repeat (first | (with_reducible first | exact HB.out | apply bwA | apply bwN | apply bw1 | refine bwS ?_ GE235.out) | exact HB.out)⟩⟩
         case round =>
          clear H'
          try clear c9
          try clear c10
          try clear c10b0
          try clear c11
          try clear c11b0
          try clear c12
          try clear c12b0
          try clear c12b1
          try clear hcz14_0 hcz14_1 hcz14_2 hcz14_3 hcz14_4 hcz14_5 hcz14_6 hcz14_7 hcz14_8
          try clear hfz14_0 hfz14_1 hfz14_2 hfz14_3 hfz14_4 hfz14_5 hfz14_6 hfz14_7 hfz14_8
          try clear hx236_0
          try clear p236
          try clear q236
          obtain ⟨x4_3, rfl, HA, HK3, BK235, HB⟩ := hrel
          cases gk with
          | zero => exact absurd HA.out (by simp [quarrellaw16_Great.l1])
          | succ k3 =>
           have H := HA.out
           clear HA
           simp only [quarrellaw16_Great.l1] at H
           by_cases c15 : 0 ≤ x3_2
           ·rw [if_pos c15] at H
            have c15b0 : decide (0 ≤ x3_2) = true := decide_eq_true c15
            clear c15
            by_cases c16 : x3_2 < (l0_8.length : Int)
            ·rw [if_pos c16] at H
             have c16b0 : decide (x3_2 < (l0_8.length : Int)) = true := decide_eq_true c16
             clear c16
             by_cases c17 : x4_3 < ((rd_L7 l0_8 x3_2).length : Int)
             ·rw [if_pos c17] at H
              have c17b0 : decide (x4_3 < ((rd_L7 l0_8 x3_2).length : Int)) = true := decide_eq_true c17
              clear c17
              by_cases c18 : 0 ≤ x4_3
              ·rw [if_pos c18] at H
               have c18b0 : decide (0 ≤ x4_3) = true := decide_eq_true c18
               clear c18
               by_cases c19 : ((rd_L6 (rd_L7 l0_8 x3_2) x4_3).length : Int) > 20
               ·rw [if_pos c19] at H
                have c19b0 : decide (20 < ((rd_L6 (rd_L7 l0_8 x3_2) x4_3).length : Int)) = true := decide_eq_true c19
                have c19b1 : decide (20 < (rd_L6 (rd_L7 l0_8 x3_2) x4_3).length) = true := decide_eq_true (by omega)
                clear c19
                obtain rfl := Option.some.inj H
                have hcz20_0 : wr.cell? ⟨gb235, 0, none⟩ = some (.int .i64 a0_0) := (blk_cell BK235.out 0).trans rfl
                have hcz20_1 : wr.cell? ⟨gb235, 1, none⟩ = some (.int .i64 a0_1) := (blk_cell BK235.out 1).trans rfl
                have hcz20_2 : wr.cell? ⟨gb235, 2, none⟩ = some (.int .i64 a0_2) := (blk_cell BK235.out 2).trans rfl
                have hcz20_3 : wr.cell? ⟨gb235, 3, none⟩ = some (.int .i64 a0_3) := (blk_cell BK235.out 3).trans rfl
                have hcz20_4 : wr.cell? ⟨gb235, 4, none⟩ = some (.int .i64 a0_4) := (blk_cell BK235.out 4).trans rfl
                have hcz20_5 : wr.cell? ⟨gb235, 5, none⟩ = some (.int .i64 a0_5) := (blk_cell BK235.out 5).trans rfl
                have hcz20_6 : wr.cell? ⟨gb235, 6, none⟩ = some (.slice A0_6 l0_6.length c0_6) := (blk_cell BK235.out 6).trans rfl
                have hcz20_7 : wr.cell? ⟨gb235, 7, none⟩ = some (.slice A0_7 l0_7.length c0_7) := (blk_cell BK235.out 7).trans rfl
                have hcz20_8 : wr.cell? ⟨gb235, 8, none⟩ = some (.slice (some ad236) l0_8.length c0_8) := (blk_cell BK235.out 8).trans rfl
                have hfz20_0 := blk_frozen BK235.out 0
                have hfz20_1 := blk_frozen BK235.out 1
                have hfz20_2 := blk_frozen BK235.out 2
                have hfz20_3 := blk_frozen BK235.out 3
                have hfz20_4 := blk_frozen BK235.out 4
                have hfz20_5 := blk_frozen BK235.out 5
                have hfz20_6 := blk_frozen BK235.out 6
                have hfz20_7 := blk_frozen BK235.out 7
                have hfz20_8 := blk_frozen BK235.out 8
                have p237 : 0 ≤ (x3_2 : Int) := of_decide_eq_true (by first | (with_reducible assumption) | assumption)
                have q237 : x3_2 < (l0_8.length : Int) := of_decide_eq_true (by first | (with_reducible assumption) | assumption)
                obtain ⟨ad237, A237_0, c237_0, e237, hx237_0, hl237_0, hi237_0⟩ := at_L7 HR0_8.out x3_2 p237 q237
                obtain rfl : ad236 = ad237 := (by injection e237)
                replace hx237_0 := (HB.out.cell (World.block_lt_of_cell? w _ hx237_0)).trans hx237_0
                have HR237_0 := Aside0.mk hi237_0
                have HC237_0 := Aside0.mk hl237_0
                clear hi237_0 hl237_0
                replace p237 := eq_true p237
                replace q237 := eq_true q237
                have p238 : 0 ≤ (x3_2 : Int) := of_decide_eq_true (by first | (with_reducible assumption) | assumption)
                have q238 : x3_2 < (l0_8.length : Int) := of_decide_eq_true (by first | (with_reducible assumption) | assumption)
                obtain ⟨ad238, A238_0, c238_0, e238, hx238_0, hl238_0, hi238_0⟩ := at_L7 HR0_8.out x3_2 p238 q238
                obtain rfl : ad236 = ad238 := (by injection e238)
                replace hx238_0 := (HB.out.cell (World.block_lt_of_cell? w _ hx238_0)).trans hx238_0
                have HR238_0 := Aside0.mk hi238_0
                have HC238_0 := Aside0.mk hl238_0
                clear hi238_0 hl238_0
                replace p238 := eq_true p238
                replace q238 := eq_true q238
                have ea_ := Option.some.inj (hx237_0.symm.trans hx238_0)
                injection ea_ with ea_ en_ ec_
                subst ea_
                subst ec_
                clear en_
                have p239 : 0 ≤ (x4_3 : Int) := of_decide_eq_true (by first | (with_reducible assumption) | assumption)
                have q239 : x4_3 < ((rd_L7 l0_8 x3_2).length : Int) := of_decide_eq_true (by first | (with_reducible assumption) | assumption)
                obtain ⟨ad239, A239_0, c239_0, e239, hx239_0, hl239_0, hi239_0⟩ := at_L6 HR238_0.out x4_3 p239 q239
                cases e239
                replace hx239_0 := (HB.out.cell (World.block_lt_of_cell? w _ hx239_0)).trans hx239_0
                have HR239_0 := Aside0.mk hi239_0
                have HC239_0 := Aside0.mk hl239_0
                clear hi239_0 hl239_0
                replace p239 := eq_true p239
                replace q239 := eq_true q239
                go_wp2
                go_ret
                exact ⟨by first | rfl | (simp [errW_none, errW_some] <;> rfl) | (simp [*, errW_none, errW_some] <;> rfl), by repeat (first | (with_reducible first | exact HB.out | apply bwA | apply bwN | apply bw1 | refine bwS ?_ GE235.out) | exact HB.out)⟩
               ·rw [if_neg c19] at H
                have c19b0 : decide (20 < ((rd_L6 (rd_L7 l0_8 x3_2) x4_3).length : Int)) = false := decide_eq_false c19
                have c19b1 : decide (20 < (rd_L6 (rd_L7 l0_8 x3_2) x4_3).length) = false := decide_eq_false (by omega)
                clear c19
                have H' := Aside0.mk H
                clear H
                have hcz21_0 : wr.cell? ⟨gb235, 0, none⟩ = some (.int .i64 a0_0) := (blk_cell BK235.out 0).trans rfl
                have hcz21_1 : wr.cell? ⟨gb235, 1, none⟩ = some (.int .i64 a0_1) := (blk_cell BK235.out 1).trans rfl
                have hcz21_2 : wr.cell? ⟨gb235, 2, none⟩ = some (.int .i64 a0_2) := (blk_cell BK235.out 2).trans rfl
                have hcz21_3 : wr.cell? ⟨gb235, 3, none⟩ = some (.int .i64 a0_3) := (blk_cell BK235.out 3).trans rfl
                have hcz21_4 : wr.cell? ⟨gb235, 4, none⟩ = some (.int .i64 a0_4) := (blk_cell BK235.out 4).trans rfl
                have hcz21_5 : wr.cell? ⟨gb235, 5, none⟩ = some (.int .i64 a0_5) := (blk_cell BK235.out 5).trans rfl
                have hcz21_6 : wr.cell? ⟨gb235, 6, none⟩ = some (.slice A0_6 l0_6.length c0_6) := (blk_cell BK235.out 6).trans rfl
                have hcz21_7 : wr.cell? ⟨gb235, 7, none⟩ = some (.slice A0_7 l0_7.length c0_7) := (blk_cell BK235.out 7).trans rfl
                have hcz21_8 : wr.cell? ⟨gb235, 8, none⟩ = some (.slice (some ad236) l0_8.length c0_8) := (blk_cell BK235.out 8).trans rfl
                have hfz21_0 := blk_frozen BK235.out 0
                have hfz21_1 := blk_frozen BK235.out 1
                have hfz21_2 := blk_frozen BK235.out 2
                have hfz21_3 := blk_frozen BK235.out 3
                have hfz21_4 := blk_frozen BK235.out 4
                have hfz21_5 := blk_frozen BK235.out 5
                have hfz21_6 := blk_frozen BK235.out 6
                have hfz21_7 := blk_frozen BK235.out 7
                have hfz21_8 := blk_frozen BK235.out 8
                have p237 : 0 ≤ (x3_2 : Int) := of_decide_eq_true (by first | (with_reducible assumption) | assumption)
                have q237 : x3_2 < (l0_8.length : Int) := of_decide_eq_true (by first | (with_reducible assumption) | assumption)
                obtain ⟨ad237, A237_0, c237_0, e237, hx237_0, hl237_0, hi237_0⟩ := at_L7 HR0_8.out x3_2 p237 q237
                obtain rfl : ad236 = ad237 := (by injection e237)
                replace hx237_0 := (HB.out.cell (World.block_lt_of_cell? w _ hx237_0)).trans hx237_0
                have HR237_0 := Aside0.mk hi237_0
                have HC237_0 := Aside0.mk hl237_0
                clear hi237_0 hl237_0
                replace p237 := eq_true p237
                replace q237 := eq_true q237
                have p238 : 0 ≤ (x3_2 : Int) := of_decide_eq_true (by first | (with_reducible assumption) | assumption)
                have q238 : x3_2 < (l0_8.length : Int) := of_decide_eq_true (by first | (with_reducible assumption) | assumption)
                obtain ⟨ad238, A238_0, c238_0, e238, hx238_0, hl238_0, hi238_0⟩ := at_L7 HR0_8.out x3_2 p238 q238
                obtain rfl : ad236 = ad238 := (by injection e238)
                replace hx238_0 := (HB.out.cell (World.block_lt_of_cell? w _ hx238_0)).trans hx238_0
                have HR238_0 := Aside0.mk hi238_0
                have HC238_0 := Aside0.mk hl238_0
                clear hi238_0 hl238_0
                replace p238 := eq_true p238
                replace q238 := eq_true q238
                have ea_ := Option.some.inj (hx237_0.symm.trans hx238_0)
                injection ea_ with ea_ en_ ec_
                subst ea_
                subst ec_
                clear en_
                have p239 : 0 ≤ (x4_3 : Int) := of_decide_eq_true (by first | (with_reducible assumption) | assumption)
                have q239 : x4_3 < ((rd_L7 l0_8 x3_2).length : Int) := of_decide_eq_true (by first | (with_reducible assumption) | assumption)
                obtain ⟨ad239, A239_0, c239_0, e239, hx239_0, hl239_0, hi239_0⟩ := at_L6 HR238_0.out x4_3 p239 q239
                cases e239
                replace hx239_0 := (HB.out.cell (World.block_lt_of_cell? w _ hx239_0)).trans hx239_0
                have HR239_0 := Aside0.mk hi239_0
                have HC239_0 := Aside0.mk hl239_0
                clear hi239_0 hl239_0
                replace p239 := eq_true p239
                replace q239 := eq_true q239
                go_wp2
                go_roundg k3
                case measure => have := HJ1.out; have := HK2.out; have := HK3.out; omega
                case rel => exact ⟨(wrap64 (x4_3 + 1)), (by first | rfl | (simp; done) | (simp [*]; done)), H', ⟨by have := HJ1.out; have := HK2.out; have := HK3.out; omega⟩, ⟨by (with_reducible repeat (first | refine blk_drewN ?_ _ | refine blk_drew ?_ | refine blk_alloc ?_ _)); exact BK235.out⟩, ⟨by repeat (first | (with_reducible first | exact HB.out | apply bwA | apply bwN | apply bw1 | refine bwS ?_ GE235.out) | exact HB.out)⟩⟩
              ·rw [if_neg c18] at H
               exact absurd H (by simp)
             ·rw [if_neg c17] at H
              have c17b0 : decide (x4_3 < ((rd_L7 l0_8 x3_2).length : Int)) = false := decide_eq_false c17
              clear c17
              have H' := Aside0.mk H
              clear H
              have hcz22_0 : wr.cell? ⟨gb235, 0, none⟩ = some (.int .i64 a0_0) := (blk_cell BK235.out 0).trans rfl
              have hcz22_1 : wr.cell? ⟨gb235, 1, none⟩ = some (.int .i64 a0_1) := (blk_cell BK235.out 1).trans rfl
              have hcz22_2 : wr.cell? ⟨gb235, 2, none⟩ = some (.int .i64 a0_2) := (blk_cell BK235.out 2).trans rfl
              have hcz22_3 : wr.cell? ⟨gb235, 3, none⟩ = some (.int .i64 a0_3) := (blk_cell BK235.out 3).trans rfl
              have hcz22_4 : wr.cell? ⟨gb235, 4, none⟩ = some (.int .i64 a0_4) := (blk_cell BK235.out 4).trans rfl
              have hcz22_5 : wr.cell? ⟨gb235, 5, none⟩ = some (.int .i64 a0_5) := (blk_cell BK235.out 5).trans rfl
              have hcz22_6 : wr.cell? ⟨gb235, 6, none⟩ = some (.slice A0_6 l0_6.length c0_6) := (blk_cell BK235.out 6).trans rfl
              have hcz22_7 : wr.cell? ⟨gb235, 7, none⟩ = some (.slice A0_7 l0_7.length c0_7) := (blk_cell BK235.out 7).trans rfl
              have hcz22_8 : wr.cell? ⟨gb235, 8, none⟩ = some (.slice (some ad236) l0_8.length c0_8) := (blk_cell BK235.out 8).trans rfl
              have hfz22_0 := blk_frozen BK235.out 0
              have hfz22_1 := blk_frozen BK235.out 1
              have hfz22_2 := blk_frozen BK235.out 2
              have hfz22_3 := blk_frozen BK235.out 3
              have hfz22_4 := blk_frozen BK235.out 4
              have hfz22_5 := blk_frozen BK235.out 5
              have hfz22_6 := blk_frozen BK235.out 6
              have hfz22_7 := blk_frozen BK235.out 7
              have hfz22_8 := blk_frozen BK235.out 8
              have p237 : 0 ≤ (x3_2 : Int) := of_decide_eq_true (by first | (with_reducible assumption) | assumption)
              have q237 : x3_2 < (l0_8.length : Int) := of_decide_eq_true (by first | (with_reducible assumption) | assumption)
              obtain ⟨ad237, A237_0, c237_0, e237, hx237_0, hl237_0, hi237_0⟩ := at_L7 HR0_8.out x3_2 p237 q237
              obtain rfl : ad236 = ad237 := (by injection e237)
              replace hx237_0 := (HB.out.cell (World.block_lt_of_cell? w _ hx237_0)).trans hx237_0
              have HR237_0 := Aside0.mk hi237_0
              have HC237_0 := Aside0.mk hl237_0
              clear hi237_0 hl237_0
              replace p237 := eq_true p237
              replace q237 := eq_true q237
              go_wp2
              go_roundg k3
              case measure => have := HJ1.out; have := HK2.out; have := HK3.out; omega
              case rel => exact ⟨(wrap64 (x3_2 + 1)), (by first | rfl | (simp; done) | (simp [*]; done)), H', ⟨by have := HJ1.out; have := HK2.out; have := HK3.out; omega⟩, ⟨by (with_reducible repeat (first | refine blk_drewN ?_ _ | refine blk_drew ?_ | refine blk_alloc ?_ _)); exact BK235.out⟩, ⟨by repeat (first | (with_reducible first | exact HB.out | apply bwA | apply bwN | apply bw1 | refine bwS ?_ GE235.out) | exact HB.out)⟩⟩
            ·rw [if_neg c16] at H
             exact absurd H (by simp)
           ·rw [if_neg c15] at H
            exact absurd H (by simp)
       ·rw [if_neg c11] at H
        exact absurd H (by simp)
      ·rw [if_neg c10] at H
       have c10b0 : decide (x3_2 < (l0_8.length : Int)) = false := decide_eq_false c10
       clear c10
       obtain rfl := Option.some.inj H
       have hcz23_0 : wr.cell? ⟨gb235, 0, none⟩ = some (.int .i64 a0_0) := (blk_cell BK235.out 0).trans rfl
       have hcz23_1 : wr.cell? ⟨gb235, 1, none⟩ = some (.int .i64 a0_1) := (blk_cell BK235.out 1).trans rfl
       have hcz23_2 : wr.cell? ⟨gb235, 2, none⟩ = some (.int .i64 a0_2) := (blk_cell BK235.out 2).trans rfl
       have hcz23_3 : wr.cell? ⟨gb235, 3, none⟩ = some (.int .i64 a0_3) := (blk_cell BK235.out 3).trans rfl
       have hcz23_4 : wr.cell? ⟨gb235, 4, none⟩ = some (.int .i64 a0_4) := (blk_cell BK235.out 4).trans rfl
       have hcz23_5 : wr.cell? ⟨gb235, 5, none⟩ = some (.int .i64 a0_5) := (blk_cell BK235.out 5).trans rfl
       have hcz23_6 : wr.cell? ⟨gb235, 6, none⟩ = some (.slice A0_6 l0_6.length c0_6) := (blk_cell BK235.out 6).trans rfl
       have hcz23_7 : wr.cell? ⟨gb235, 7, none⟩ = some (.slice A0_7 l0_7.length c0_7) := (blk_cell BK235.out 7).trans rfl
       have hcz23_8 : wr.cell? ⟨gb235, 8, none⟩ = some (.slice A0_8 l0_8.length c0_8) := (blk_cell BK235.out 8).trans rfl
       have hfz23_0 := blk_frozen BK235.out 0
       have hfz23_1 := blk_frozen BK235.out 1
       have hfz23_2 := blk_frozen BK235.out 2
       have hfz23_3 := blk_frozen BK235.out 3
       have hfz23_4 := blk_frozen BK235.out 4
       have hfz23_5 := blk_frozen BK235.out 5
       have hfz23_6 := blk_frozen BK235.out 6
       have hfz23_7 := blk_frozen BK235.out 7
       have hfz23_8 := blk_frozen BK235.out 8
       go_wp2
       go_ret
       exact ⟨by first | rfl | (simp [errW_none, errW_some] <;> rfl) | (simp [*, errW_none, errW_some] <;> rfl), by repeat (first | (with_reducible first | exact HB.out | apply bwA | apply bwN | apply bw1 | refine bwS ?_ GE235.out) | exact HB.out)⟩
def quarrellaw20_great.f (k : Nat) (a0_0 : Int) (a0_1 : Int) (a0_2 : Int) (a0_3 : Int) (a0_4 : Int) (a0_5 : Int) (l0_6 : List Int) (l0_7 : List Int) (l0_8 : List (List (List (S80)))) (l0_9 : List Int) : Option (Bool) := if (l0_9.length : Int) > 1000 then (some true) else (if (l0_7.length : Int) > 1000 then (some true) else ((quarrellaw16_Great.f k 0 0 0 0 0 0 l0_6 ([] : List Int) l0_8).bind fun t241 => (some (decide (t241 > 0)))))
theorem quarrellaw20_great.mono : ∀ a0 a1 a2 a3 a4 a5 a6 a7 a8 a9 k, LeO (quarrellaw20_great.f k a0 a1 a2 a3 a4 a5 a6 a7 a8 a9) (quarrellaw20_great.f (k + 1) a0 a1 a2 a3 a4 a5 a6 a7 a8 a9) := by
  intro a0 a1 a2 a3 a4 a5 a6 a7 a8 a9 k
  unfold quarrellaw20_great.f
  repeat' first
      | (with_reducible exact quarrellaw16_Great.mono _ _ _ _ _ _ _ _ _ _)
      | (with_reducible exact LeO.refl _)
      | (with_reducible exact LeO.none _)
      | (with_reducible refine LeO.ite ?_ ?_)
      | (with_reducible refine LeO.bind ?_ (fun _ => ?_))
      | exact quarrellaw16_Great.mono _ _ _ _ _ _ _ _ _ _
      | exact LeO.none _
      | refine LeO.ite ?_ ?_
      | refine LeO.bind ?_ (fun _ => ?_)
set_option maxHeartbeats 8000000 in
set_option maxRecDepth 100000 in
theorem quarrellaw20_great.calls (k : Nat) (a0_0 : Int) (a0_1 : Int) (a0_2 : Int) (a0_3 : Int) (a0_4 : Int) (a0_5 : Int) (A0_6 : Option Addr) (c0_6 : Nat) (l0_6 : List Int) (A0_7 : Option Addr) (c0_7 : Nat) (l0_7 : List Int) (A0_8 : Option Addr) (c0_8 : Nat) (l0_8 : List (List (List (S80)))) (A0_9 : Option Addr) (c0_9 : Nat) (l0_9 : List Int) (r : Bool) (w : World) (hr0_6 : Kd.C (Kd.int .i64) w A0_6 l0_6.length l0_6) (hc0_6 : l0_6.length ≤ c0_6) (hr0_7 : Kd.C (Kd.int .u8) w A0_7 l0_7.length l0_7) (hc0_7 : l0_7.length ≤ c0_7) (hr0_8 : Kd.C (Kd.slice 61 (Kd.slice 80 k80)) w A0_8 l0_8.length l0_8) (hc0_8 : l0_8.length ≤ c0_8) (hr0_9 : Kd.C (Kd.int .i64) w A0_9 l0_9.length l0_9) (hc0_9 : l0_9.length ≤ c0_9) (h : quarrellaw20_great.f k a0_0 a0_1 a0_2 a0_3 a0_4 a0_5 l0_6 l0_7 l0_8 l0_9 = some r) :
  Calls Try.prog 13 #[.agg #[.int .i64 a0_0, .int .i64 a0_1, .int .i64 a0_2, .int .i64 a0_3, .int .i64 a0_4, .int .i64 a0_5, .slice A0_6 l0_6.length c0_6, .slice A0_7 l0_7.length c0_7, .slice A0_8 l0_8.length c0_8, .slice A0_9 l0_9.length c0_9]] w fun e w' => e = .returned (.bool r) ∧ Below w.heap.size w w' := by
 have hu34 := Try.underlying34
 have hu68 := Try.underlying68
 have HR0_6 := Aside0.mk hr0_6
 have HC0_6 := Aside0.mk hc0_6
 clear hr0_6 hc0_6
 have HR0_7 := Aside0.mk hr0_7
 have HC0_7 := Aside0.mk hc0_7
 clear hr0_7 hc0_7
 have HR0_8 := Aside0.mk hr0_8
 have HC0_8 := Aside0.mk hc0_8
 clear hr0_8 hc0_8
 have HR0_9 := Aside0.mk hr0_9
 have HC0_9 := Aside0.mk hc0_9
 clear hr0_9 hc0_9
 have HB := Aside0.mk (Below.refl w.heap.size w)
 have H : (if (l0_9.length : Int) > 1000 then (some true) else (if (l0_7.length : Int) > 1000 then (some true) else ((quarrellaw16_Great.f k 0 0 0 0 0 0 l0_6 ([] : List Int) l0_8).bind fun t241 => (some (decide (t241 > 0)))))) = some r := h
 clear h
 by_cases c2 : (l0_9.length : Int) > 1000
 ·rw [if_pos c2] at H
  have c2b0 : decide (1000 < (l0_9.length : Int)) = true := decide_eq_true c2
  have c2b1 : decide (1000 < l0_9.length) = true := decide_eq_true (by omega)
  clear c2
  obtain rfl := Option.some.inj H
  go_enter Try.func13, Try.ntmps13
  go_wp2_with (first | ((with_reducible refine gate_dst (N := 1) rfl ?_); (try (refine gate_guard (by rfl) ?_; dsimp only)); refine box_event ?hg (N := 1) ?hd (cs := #[.int .i64 a0_0, .int .i64 a0_1, .int .i64 a0_2, .int .i64 a0_3, .int .i64 a0_4, .int .i64 a0_5, .slice A0_6 l0_6.length c0_6, .slice A0_7 l0_7.length c0_7, .slice A0_8 l0_8.length c0_8, .slice A0_9 l0_9.length c0_9]) (t := 34) ?hr ?_; (case hd => rfl); (case hg => rfl); (case hr => first | (go_simp; done) | (go_simp; rfl)); intro gb240 hg w3 hbox hb; have n0_ := Aside0.mk (below_step (by repeat (first | (with_reducible first | exact HB.out | apply bwA | apply bwN | apply bw1) | exact HB.out)) hb); have n1_ := Aside0.mk (hbox); have n2_ := Aside0.mk ((by rw [hg]; exact (below_size (by repeat (first | (with_reducible first | exact HB.out | apply bwA | apply bwN | apply bw1) | exact HB.out))) : w.heap.size ≤ gb240)); have n3_ := Aside0.mk ((by rw [hg]; exact (below_size (by repeat (first | (with_reducible first | exact HB.out | apply bwA | apply bwN | apply bw1) | exact HB.out))) : w.heap.size ≤ gb240)); clear HB; have HB := n0_; have BK240 := n1_; have GW240 := n2_; have GE240 := n3_; clear n0_ n1_ n2_ n3_; clear hb hbox hg; obtain ⟨hcz4_0, hcz4_1, hcz4_2, hcz4_3, hcz4_4, hcz4_5, hcz4_6, hcz4_7, hcz4_8, hcz4_9, hfz4_0, hfz4_1, hfz4_2, hfz4_3, hfz4_4, hfz4_5, hfz4_6, hfz4_7, hfz4_8, hfz4_9⟩ := cf10 BK240.out))
  go_ret
  exact ⟨by first | rfl | (simp [errW_none, errW_some] <;> rfl) | (simp [*, errW_none, errW_some] <;> rfl), by repeat (first | (with_reducible first | exact HB.out | apply bwA | apply bwN | apply bw1 | refine bwS ?_ GE240.out) | exact HB.out)⟩
 ·rw [if_neg c2] at H
  have c2b0 : decide (1000 < (l0_9.length : Int)) = false := decide_eq_false c2
  have c2b1 : decide (1000 < l0_9.length) = false := decide_eq_false (by omega)
  clear c2
  by_cases c5 : (l0_7.length : Int) > 1000
  ·rw [if_pos c5] at H
   have c5b0 : decide (1000 < (l0_7.length : Int)) = true := decide_eq_true c5
   have c5b1 : decide (1000 < l0_7.length) = true := decide_eq_true (by omega)
   clear c5
   obtain rfl := Option.some.inj H
   go_enter Try.func13, Try.ntmps13
   go_wp2_with (first | ((with_reducible refine gate_dst (N := 1) rfl ?_); (try (refine gate_guard (by rfl) ?_; dsimp only)); refine box_event ?hg (N := 1) ?hd (cs := #[.int .i64 a0_0, .int .i64 a0_1, .int .i64 a0_2, .int .i64 a0_3, .int .i64 a0_4, .int .i64 a0_5, .slice A0_6 l0_6.length c0_6, .slice A0_7 l0_7.length c0_7, .slice A0_8 l0_8.length c0_8, .slice A0_9 l0_9.length c0_9]) (t := 34) ?hr ?_; (case hd => rfl); (case hg => rfl); (case hr => first | (go_simp; done) | (go_simp; rfl)); intro gb240 hg w6 hbox hb; have n0_ := Aside0.mk (below_step (by repeat (first | (with_reducible first | exact HB.out | apply bwA | apply bwN | apply bw1) | exact HB.out)) hb); have n1_ := Aside0.mk (hbox); have n2_ := Aside0.mk ((by rw [hg]; exact (below_size (by repeat (first | (with_reducible first | exact HB.out | apply bwA | apply bwN | apply bw1) | exact HB.out))) : w.heap.size ≤ gb240)); have n3_ := Aside0.mk ((by rw [hg]; exact (below_size (by repeat (first | (with_reducible first | exact HB.out | apply bwA | apply bwN | apply bw1) | exact HB.out))) : w.heap.size ≤ gb240)); clear HB; have HB := n0_; have BK240 := n1_; have GW240 := n2_; have GE240 := n3_; clear n0_ n1_ n2_ n3_; clear hb hbox hg; obtain ⟨hcz7_0, hcz7_1, hcz7_2, hcz7_3, hcz7_4, hcz7_5, hcz7_6, hcz7_7, hcz7_8, hcz7_9, hfz7_0, hfz7_1, hfz7_2, hfz7_3, hfz7_4, hfz7_5, hfz7_6, hfz7_7, hfz7_8, hfz7_9⟩ := cf10 BK240.out))
   go_ret
   exact ⟨by first | rfl | (simp [errW_none, errW_some] <;> rfl) | (simp [*, errW_none, errW_some] <;> rfl), by repeat (first | (with_reducible first | exact HB.out | apply bwA | apply bwN | apply bw1 | refine bwS ?_ GE240.out) | exact HB.out)⟩
  ·rw [if_neg c5] at H
   have c5b0 : decide (1000 < (l0_7.length : Int)) = false := decide_eq_false c5
   have c5b1 : decide (1000 < l0_7.length) = false := decide_eq_false (by omega)
   clear c5
   replace H := Option.bind_eq_some_iff.mp H
   obtain ⟨t241, A80, H⟩ := H
   replace H : (some (decide (t241 > 0))) = some r := H
   have A8 := Aside0.mk A80
   clear A80
   obtain rfl := Option.some.inj H
   go_enter Try.func13, Try.ntmps13
   go_wp2_with (first | ((with_reducible refine gate_dst (N := 1) rfl ?_); (try (refine gate_guard (by rfl) ?_; dsimp only)); refine box_event ?hg (N := 1) ?hd (cs := #[.int .i64 a0_0, .int .i64 a0_1, .int .i64 a0_2, .int .i64 a0_3, .int .i64 a0_4, .int .i64 a0_5, .slice A0_6 l0_6.length c0_6, .slice A0_7 l0_7.length c0_7, .slice A0_8 l0_8.length c0_8, .slice A0_9 l0_9.length c0_9]) (t := 34) ?hr ?_; (case hd => rfl); (case hg => rfl); (case hr => first | (go_simp; done) | (go_simp; rfl)); intro gb240 hg w9 hbox hb; have n0_ := Aside0.mk (below_step (by repeat (first | (with_reducible first | exact HB.out | apply bwA | apply bwN | apply bw1) | exact HB.out)) hb); have n1_ := Aside0.mk (hbox); have n2_ := Aside0.mk ((by rw [hg]; exact (below_size (by repeat (first | (with_reducible first | exact HB.out | apply bwA | apply bwN | apply bw1) | exact HB.out))) : w.heap.size ≤ gb240)); have n3_ := Aside0.mk ((by rw [hg]; exact (below_size (by repeat (first | (with_reducible first | exact HB.out | apply bwA | apply bwN | apply bw1) | exact HB.out))) : w.heap.size ≤ gb240)); clear HB; have HB := n0_; have BK240 := n1_; have GW240 := n2_; have GE240 := n3_; clear n0_ n1_ n2_ n3_; clear hb hbox hg; obtain ⟨hcz10_0, hcz10_1, hcz10_2, hcz10_3, hcz10_4, hcz10_5, hcz10_6, hcz10_7, hcz10_8, hcz10_9, hfz10_0, hfz10_1, hfz10_2, hfz10_3, hfz10_4, hfz10_5, hfz10_6, hfz10_7, hfz10_8, hfz10_9⟩ := cf10 BK240.out) | (go_at_call 30; (refine (quarrellaw16_Great.calls k 0 0 0 0 0 0 _ _ l0_6 _ _ ([] : List Int) _ _ l0_8 t241 _ ?side1 ?side2 ?side3 ?side4 ?side5 ?side6 A8.out).mono ?_); (case side1 => repeat (first | exact (Kd.C_below HR0_6.out HB.out) | (with_reducible refine Kd.C_alloc ?_ _) | (with_reducible refine Kd.C_drewN ?_ _) | (with_reducible refine Kd.C_drew ?_))); (case side2 => exact HC0_6.out); (case side3 => exact Kd.C_nil _ _); (case side4 => exact Nat.le_refl _); (case side5 => repeat (first | exact (Kd.C_below HR0_8.out HB.out) | (with_reducible refine Kd.C_alloc ?_ _) | (with_reducible refine Kd.C_drewN ?_ _) | (with_reducible refine Kd.C_drew ?_))); (case side6 => exact HC0_8.out); rintro e w11 ⟨rfl, hb⟩; have n0_ := Aside0.mk (blk_below (g := gb240) (o := .cells #[.int .i64 a0_0, .int .i64 a0_1, .int .i64 a0_2, .int .i64 a0_3, .int .i64 a0_4, .int .i64 a0_5, .slice A0_6 l0_6.length c0_6, .slice A0_7 l0_7.length c0_7, .slice A0_8 l0_8.length c0_8, .slice A0_9 l0_9.length c0_9] 34 (0, 0)) (by (with_reducible repeat (first | refine blk_drewN ?_ _ | refine blk_drew ?_ | refine blk_alloc ?_ _)); exact BK240.out) hb); have n1_ := Aside0.mk (below_step (by repeat (first | (with_reducible first | exact HB.out | apply bwA | apply bwN | apply bw1 | refine bwS ?_ GE240.out) | exact HB.out)) hb); clear BK240; clear HB; have BK240 := n0_; have HB := n1_; clear n0_ n1_; (try clear hb); (try clear hb2); (try clear hk); (try clear hi)))
   go_ret
   exact ⟨by first | rfl | (simp [errW_none, errW_some] <;> rfl) | (simp [*, errW_none, errW_some] <;> rfl), by repeat (first | (with_reducible first | exact HB.out | apply bwA | apply bwN | apply bw1 | refine bwS ?_ GE240.out) | exact HB.out)⟩
end Go.Proofs.Ythfkgnkojhocbaa.S
end
section
namespace Go.Proofs.Ythfkgnkojhocbaa.S
open Go.RowKit Go.Proofs.YthfkgnkojhocbaaW.PrintWords Go.Proofs.YthfkgnkojhocbaaW.PrintLast Go.Proofs.YthfkgnkojhocbaaW.PrintMore
attribute [local go_sem] max2_int min2_int max_two min_two max_three min_three max_four min_four
set_option linter.unusedVariables false
set_option linter.unusedSimpArgs false
def quarrelref13_New.f (k : Nat) (a0_0 : Int) (a0_1 : Int) (a0_2 : Int) (a0_3 : Int) (a0_4 : Int) (a0_5 : Int) (l1 : List Int) : Option (Int) := (quarrelref13_Check.f k a0_0 a0_1 a0_2 a0_3 a0_4 a0_5).bind fun t243 => (if t243 = true then (if (l1.length : Int) = a0_0 then (if (wrap64 (2 * (l1.length : Int))) > a0_2 then (some 4) else (some 0)) else (some 3)) else (some 2))
theorem quarrelref13_New.mono : ∀ a0 a1 a2 a3 a4 a5 a6 k, LeO (quarrelref13_New.f k a0 a1 a2 a3 a4 a5 a6) (quarrelref13_New.f (k + 1) a0 a1 a2 a3 a4 a5 a6) := by
  intro a0 a1 a2 a3 a4 a5 a6 k
  unfold quarrelref13_New.f
  repeat' first
      | (with_reducible exact quarrelref13_Check.mono _ _ _ _ _ _ _)
      | (with_reducible exact LeO.refl _)
      | (with_reducible exact LeO.none _)
      | (with_reducible refine LeO.ite ?_ ?_)
      | (with_reducible refine LeO.bind ?_ (fun _ => ?_))
      | exact quarrelref13_Check.mono _ _ _ _ _ _ _
      | exact LeO.none _
      | refine LeO.ite ?_ ?_
      | refine LeO.bind ?_ (fun _ => ?_)
set_option maxHeartbeats 8000000 in
set_option maxRecDepth 100000 in
theorem quarrelref13_New.calls (k : Nat) (a0_0 : Int) (a0_1 : Int) (a0_2 : Int) (a0_3 : Int) (a0_4 : Int) (a0_5 : Int) (A1 : Option Addr) (c1 : Nat) (l1 : List Int) (r : Int) (w : World) (hr1 : Kd.C (Kd.int .i64) w A1 l1.length l1) (hc1 : l1.length ≤ c1) (h : quarrelref13_New.f k a0_0 a0_1 a0_2 a0_3 a0_4 a0_5 l1 = some r) :
  Calls Try.prog 31 #[.agg #[.int .i64 a0_0, .int .i64 a0_1, .int .i64 a0_2, .int .i64 a0_3, .int .i64 a0_4, .int .i64 a0_5], .slice A1 l1.length c1] w fun e w' => e = .returned (.int .i64 r) ∧ Below w.heap.size w w' := by
 have hu25 := Try.underlying25
 have HR1 := Aside0.mk hr1
 have HC1 := Aside0.mk hc1
 clear hr1 hc1
 have HB := Aside0.mk (Below.refl w.heap.size w)
 have H : ((quarrelref13_Check.f k a0_0 a0_1 a0_2 a0_3 a0_4 a0_5).bind fun t243 => (if t243 = true then (if (l1.length : Int) = a0_0 then (if (wrap64 (2 * (l1.length : Int))) > a0_2 then (some 4) else (some 0)) else (some 3)) else (some 2))) = some r := h
 clear h
 replace H := Option.bind_eq_some_iff.mp H
 obtain ⟨t243, A30, H⟩ := H
 replace H : (if t243 = true then (if (l1.length : Int) = a0_0 then (if (wrap64 (2 * (l1.length : Int))) > a0_2 then (some 4) else (some 0)) else (some 3)) else (some 2)) = some r := H
 have A3 := Aside0.mk A30
 clear A30
 by_cases c4 : t243 = true
 ·subst c4
  have H1 : (if (l1.length : Int) = a0_0 then (if (wrap64 (2 * (l1.length : Int))) > a0_2 then (some 4) else (some 0)) else (some 3)) = some r := by rw [if_pos rfl] at H; exact H
  clear H
  have H := H1
  clear H1
  by_cases c5 : (l1.length : Int) = a0_0
  ·rw [if_pos c5] at H
   have c5b0 : ((l1.length : Int) == a0_0) = true := beq_iff_eq.mpr c5
   have c5b1 : ((l1.length : Int) != a0_0) = false := bne_eq_false_iff_eq.mpr c5
   clear c5
   by_cases c6 : (wrap64 (2 * (l1.length : Int))) > a0_2
   ·rw [if_pos c6] at H
    have c6b0 : decide (a0_2 < (wrap64 (2 * (l1.length : Int)))) = true := decide_eq_true c6
    clear c6
    obtain rfl := Option.some.inj H
    go_enter Try.func31, Try.ntmps31
    go_wp2_with (first | ((with_reducible refine gate_dst (N := 2) rfl ?_); refine box_event ?hg (N := 2) ?hd (cs := #[.int .i64 a0_0, .int .i64 a0_1, .int .i64 a0_2, .int .i64 a0_3, .int .i64 a0_4, .int .i64 a0_5]) (t := 25) ?hr ?_; (case hd => rfl); (case hg => rfl); (case hr => first | (go_simp; done) | (go_simp; rfl)); intro gb242 hg w7 hbox hb; have n0_ := Aside0.mk (below_step (by repeat (first | (with_reducible first | exact HB.out | apply bwA | apply bwN | apply bw1) | exact HB.out)) hb); have n1_ := Aside0.mk (hbox); have n2_ := Aside0.mk ((by rw [hg]; exact (below_size (by repeat (first | (with_reducible first | exact HB.out | apply bwA | apply bwN | apply bw1) | exact HB.out))) : w.heap.size ≤ gb242)); have n3_ := Aside0.mk ((by rw [hg]; exact (below_size (by repeat (first | (with_reducible first | exact HB.out | apply bwA | apply bwN | apply bw1) | exact HB.out))) : w.heap.size ≤ gb242)); clear HB; have HB := n0_; have BK242 := n1_; have GW242 := n2_; have GE242 := n3_; clear n0_ n1_ n2_ n3_; clear hb hbox hg; obtain ⟨hcz8_0, hcz8_1, hcz8_2, hcz8_3, hcz8_4, hcz8_5, hfz8_0, hfz8_1, hfz8_2, hfz8_3, hfz8_4, hfz8_5⟩ := cf6 BK242.out) | ((with_reducible refine gate_callee (f := 25) rfl ?_); refine goesL_ (some 6) rfl rfl Try.func25 (by kernel_rfl) rfl #[.agg #[.int .i64 a0_0, .int .i64 a0_1, .int .i64 a0_2, .int .i64 a0_3, .int .i64 a0_4, .int .i64 a0_5]] rfl (by (try simp only [List.map_toArray, List.map_cons, List.map_nil]); first | done | rfl | (simp only [List.length_drop, List.length_take]; rfl)) ?_; (with_reducible refine (quarrelref13_Check.calls k a0_0 a0_1 a0_2 a0_3 a0_4 a0_5 true _ A3.out).mono ?_); rintro e w9 ⟨rfl, hb⟩; refine ⟨_, rfl, ?_⟩; have n0_ := Aside0.mk (blk_below (g := gb242) (o := .cells #[.int .i64 a0_0, .int .i64 a0_1, .int .i64 a0_2, .int .i64 a0_3, .int .i64 a0_4, .int .i64 a0_5] 25 (0, 0)) (by (with_reducible repeat (first | refine blk_drewN ?_ _ | refine blk_drew ?_ | refine blk_alloc ?_ _)); exact BK242.out) hb); have n1_ := Aside0.mk (below_step (by repeat (first | (with_reducible first | exact HB.out | apply bwA | apply bwN | apply bw1 | refine bwS ?_ GE242.out) | exact HB.out)) hb); clear BK242; clear HB; have BK242 := n0_; have HB := n1_; clear n0_ n1_; (try clear hb); (try clear hb2); (try clear hk); (try clear hi); obtain ⟨hcz10_0, hcz10_1, hcz10_2, hcz10_3, hcz10_4, hcz10_5, hfz10_0, hfz10_1, hfz10_2, hfz10_3, hfz10_4, hfz10_5⟩ := cf6 BK242.out))
    go_ret
    exact ⟨by first | rfl | (simp [errW_none, errW_some] <;> rfl) | (simp [*, errW_none, errW_some] <;> rfl), by repeat (first | (with_reducible first | exact HB.out | apply bwA | apply bwN | apply bw1 | refine bwS ?_ GE242.out) | exact HB.out)⟩
   ·rw [if_neg c6] at H
    have c6b0 : decide (a0_2 < (wrap64 (2 * (l1.length : Int)))) = false := decide_eq_false c6
    clear c6
    obtain rfl := Option.some.inj H
    go_enter Try.func31, Try.ntmps31
    go_wp2_with (first | ((with_reducible refine gate_dst (N := 2) rfl ?_); refine box_event ?hg (N := 2) ?hd (cs := #[.int .i64 a0_0, .int .i64 a0_1, .int .i64 a0_2, .int .i64 a0_3, .int .i64 a0_4, .int .i64 a0_5]) (t := 25) ?hr ?_; (case hd => rfl); (case hg => rfl); (case hr => first | (go_simp; done) | (go_simp; rfl)); intro gb242 hg w11 hbox hb; have n0_ := Aside0.mk (below_step (by repeat (first | (with_reducible first | exact HB.out | apply bwA | apply bwN | apply bw1) | exact HB.out)) hb); have n1_ := Aside0.mk (hbox); have n2_ := Aside0.mk ((by rw [hg]; exact (below_size (by repeat (first | (with_reducible first | exact HB.out | apply bwA | apply bwN | apply bw1) | exact HB.out))) : w.heap.size ≤ gb242)); have n3_ := Aside0.mk ((by rw [hg]; exact (below_size (by repeat (first | (with_reducible first | exact HB.out | apply bwA | apply bwN | apply bw1) | exact HB.out))) : w.heap.size ≤ gb242)); clear HB; have HB := n0_; have BK242 := n1_; have GW242 := n2_; have GE242 := n3_; clear n0_ n1_ n2_ n3_; clear hb hbox hg; obtain ⟨hcz12_0, hcz12_1, hcz12_2, hcz12_3, hcz12_4, hcz12_5, hfz12_0, hfz12_1, hfz12_2, hfz12_3, hfz12_4, hfz12_5⟩ := cf6 BK242.out) | ((with_reducible refine gate_callee (f := 25) rfl ?_); refine goesL_ (some 6) rfl rfl Try.func25 (by kernel_rfl) rfl #[.agg #[.int .i64 a0_0, .int .i64 a0_1, .int .i64 a0_2, .int .i64 a0_3, .int .i64 a0_4, .int .i64 a0_5]] rfl (by (try simp only [List.map_toArray, List.map_cons, List.map_nil]); first | done | rfl | (simp only [List.length_drop, List.length_take]; rfl)) ?_; (with_reducible refine (quarrelref13_Check.calls k a0_0 a0_1 a0_2 a0_3 a0_4 a0_5 true _ A3.out).mono ?_); rintro e w13 ⟨rfl, hb⟩; refine ⟨_, rfl, ?_⟩; have n0_ := Aside0.mk (blk_below (g := gb242) (o := .cells #[.int .i64 a0_0, .int .i64 a0_1, .int .i64 a0_2, .int .i64 a0_3, .int .i64 a0_4, .int .i64 a0_5] 25 (0, 0)) (by (with_reducible repeat (first | refine blk_drewN ?_ _ | refine blk_drew ?_ | refine blk_alloc ?_ _)); exact BK242.out) hb); have n1_ := Aside0.mk (below_step (by repeat (first | (with_reducible first | exact HB.out | apply bwA | apply bwN | apply bw1 | refine bwS ?_ GE242.out) | exact HB.out)) hb); clear BK242; clear HB; have BK242 := n0_; have HB := n1_; clear n0_ n1_; (try clear hb); (try clear hb2); (try clear hk); (try clear hi); obtain ⟨hcz14_0, hcz14_1, hcz14_2, hcz14_3, hcz14_4, hcz14_5, hfz14_0, hfz14_1, hfz14_2, hfz14_3, hfz14_4, hfz14_5⟩ := cf6 BK242.out))
    go_ret
    exact ⟨by first | rfl | (simp [errW_none, errW_some] <;> rfl) | (simp [*, errW_none, errW_some] <;> rfl), by repeat (first | (with_reducible first | exact HB.out | apply bwA | apply bwN | apply bw1 | refine bwS ?_ GE242.out) | exact HB.out)⟩
  ·rw [if_neg c5] at H
   have c5b0 : ((l1.length : Int) == a0_0) = false := beq_eq_false_iff_ne.mpr c5
   have c5b1 : ((l1.length : Int) != a0_0) = true := bne_iff_ne.mpr c5
   obtain rfl := Option.some.inj H
   go_enter Try.func31, Try.ntmps31
   go_wp2_with (first | ((with_reducible refine gate_dst (N := 2) rfl ?_); refine box_event ?hg (N := 2) ?hd (cs := #[.int .i64 a0_0, .int .i64 a0_1, .int .i64 a0_2, .int .i64 a0_3, .int .i64 a0_4, .int .i64 a0_5]) (t := 25) ?hr ?_; (case hd => rfl); (case hg => rfl); (case hr => first | (go_simp; done) | (go_simp; rfl)); intro gb242 hg w15 hbox hb; have n0_ := Aside0.mk (below_step (by repeat (first | (with_reducible first | exact HB.out | apply bwA | apply bwN | apply bw1) | exact HB.out)) hb); have n1_ := Aside0.mk (hbox); have n2_ := Aside0.mk ((by rw [hg]; exact (below_size (by repeat (first | (with_reducible first | exact HB.out | apply bwA | apply bwN | apply bw1) | exact HB.out))) : w.heap.size ≤ gb242)); have n3_ := Aside0.mk ((by rw [hg]; exact (below_size (by repeat (first | (with_reducible first | exact HB.out | apply bwA | apply bwN | apply bw1) | exact HB.out))) : w.heap.size ≤ gb242)); clear HB; have HB := n0_; have BK242 := n1_; have GW242 := n2_; have GE242 := n3_; clear n0_ n1_ n2_ n3_; clear hb hbox hg; obtain ⟨hcz16_0, hcz16_1, hcz16_2, hcz16_3, hcz16_4, hcz16_5, hfz16_0, hfz16_1, hfz16_2, hfz16_3, hfz16_4, hfz16_5⟩ := cf6 BK242.out) | ((with_reducible refine gate_callee (f := 25) rfl ?_); refine goesL_ (some 6) rfl rfl Try.func25 (by kernel_rfl) rfl #[.agg #[.int .i64 a0_0, .int .i64 a0_1, .int .i64 a0_2, .int .i64 a0_3, .int .i64 a0_4, .int .i64 a0_5]] rfl (by (try simp only [List.map_toArray, List.map_cons, List.map_nil]); first | done | rfl | (simp only [List.length_drop, List.length_take]; rfl)) ?_; (with_reducible refine (quarrelref13_Check.calls k a0_0 a0_1 a0_2 a0_3 a0_4 a0_5 true _ A3.out).mono ?_); rintro e w17 ⟨rfl, hb⟩; refine ⟨_, rfl, ?_⟩; have n0_ := Aside0.mk (blk_below (g := gb242) (o := .cells #[.int .i64 a0_0, .int .i64 a0_1, .int .i64 a0_2, .int .i64 a0_3, .int .i64 a0_4, .int .i64 a0_5] 25 (0, 0)) (by (with_reducible repeat (first | refine blk_drewN ?_ _ | refine blk_drew ?_ | refine blk_alloc ?_ _)); exact BK242.out) hb); have n1_ := Aside0.mk (below_step (by repeat (first | (with_reducible first | exact HB.out | apply bwA | apply bwN | apply bw1 | refine bwS ?_ GE242.out) | exact HB.out)) hb); clear BK242; clear HB; have BK242 := n0_; have HB := n1_; clear n0_ n1_; (try clear hb); (try clear hb2); (try clear hk); (try clear hi); obtain ⟨hcz18_0, hcz18_1, hcz18_2, hcz18_3, hcz18_4, hcz18_5, hfz18_0, hfz18_1, hfz18_2, hfz18_3, hfz18_4, hfz18_5⟩ := cf6 BK242.out))
   go_ret
   exact ⟨by first | rfl | (simp [errW_none, errW_some] <;> rfl) | (simp [*, errW_none, errW_some] <;> rfl), by repeat (first | (with_reducible first | exact HB.out | apply bwA | apply bwN | apply bw1 | refine bwS ?_ GE242.out) | exact HB.out)⟩
 ·replace c4 := Bool.eq_false_iff.mpr c4
  subst c4
  have H1 : (some 2) = some r := by rw [if_neg (show ¬ (false = true) by decide)] at H; exact H
  clear H
  have H := H1
  clear H1
  obtain rfl := Option.some.inj H
  go_enter Try.func31, Try.ntmps31
  go_wp2_with (first | ((with_reducible refine gate_dst (N := 2) rfl ?_); refine box_event ?hg (N := 2) ?hd (cs := #[.int .i64 a0_0, .int .i64 a0_1, .int .i64 a0_2, .int .i64 a0_3, .int .i64 a0_4, .int .i64 a0_5]) (t := 25) ?hr ?_; (case hd => rfl); (case hg => rfl); (case hr => first | (go_simp; done) | (go_simp; rfl)); intro gb242 hg w19 hbox hb; have n0_ := Aside0.mk (below_step (by repeat (first | (with_reducible first | exact HB.out | apply bwA | apply bwN | apply bw1) | exact HB.out)) hb); have n1_ := Aside0.mk (hbox); have n2_ := Aside0.mk ((by rw [hg]; exact (below_size (by repeat (first | (with_reducible first | exact HB.out | apply bwA | apply bwN | apply bw1) | exact HB.out))) : w.heap.size ≤ gb242)); have n3_ := Aside0.mk ((by rw [hg]; exact (below_size (by repeat (first | (with_reducible first | exact HB.out | apply bwA | apply bwN | apply bw1) | exact HB.out))) : w.heap.size ≤ gb242)); clear HB; have HB := n0_; have BK242 := n1_; have GW242 := n2_; have GE242 := n3_; clear n0_ n1_ n2_ n3_; clear hb hbox hg; obtain ⟨hcz20_0, hcz20_1, hcz20_2, hcz20_3, hcz20_4, hcz20_5, hfz20_0, hfz20_1, hfz20_2, hfz20_3, hfz20_4, hfz20_5⟩ := cf6 BK242.out) | ((with_reducible refine gate_callee (f := 25) rfl ?_); refine goesL_ (some 6) rfl rfl Try.func25 (by kernel_rfl) rfl #[.agg #[.int .i64 a0_0, .int .i64 a0_1, .int .i64 a0_2, .int .i64 a0_3, .int .i64 a0_4, .int .i64 a0_5]] rfl (by (try simp only [List.map_toArray, List.map_cons, List.map_nil]); first | done | rfl | (simp only [List.length_drop, List.length_take]; rfl)) ?_; (with_reducible refine (quarrelref13_Check.calls k a0_0 a0_1 a0_2 a0_3 a0_4 a0_5 false _ A3.out).mono ?_); rintro e w21 ⟨rfl, hb⟩; refine ⟨_, rfl, ?_⟩; have n0_ := Aside0.mk (blk_below (g := gb242) (o := .cells #[.int .i64 a0_0, .int .i64 a0_1, .int .i64 a0_2, .int .i64 a0_3, .int .i64 a0_4, .int .i64 a0_5] 25 (0, 0)) (by (with_reducible repeat (first | refine blk_drewN ?_ _ | refine blk_drew ?_ | refine blk_alloc ?_ _)); exact BK242.out) hb); have n1_ := Aside0.mk (below_step (by repeat (first | (with_reducible first | exact HB.out | apply bwA | apply bwN | apply bw1 | refine bwS ?_ GE242.out) | exact HB.out)) hb); clear BK242; clear HB; have BK242 := n0_; have HB := n1_; clear n0_ n1_; (try clear hb); (try clear hb2); (try clear hk); (try clear hi)))
  go_ret
  exact ⟨by first | rfl | (simp [errW_none, errW_some] <;> rfl) | (simp [*, errW_none, errW_some] <;> rfl), by repeat (first | (with_reducible first | exact HB.out | apply bwA | apply bwN | apply bw1 | refine bwS ?_ GE242.out) | exact HB.out)⟩
def quarrelref11_Right.l0 : Nat → List (S80) → Int → Int → Option (Bool)
  | 0, _, _, _ => none
  | k + 1, x0, x1, x5 => if x5 < (x0.length : Int) then (if 0 ≤ x5 then ((quarrelref11_Ok.f k ((rd_T80 x0 x5).f0) ((rd_T80 x0 x5).f1) ((rd_T80 x0 x5).f2) x1).bind fun t245 => (if t245 = true then (quarrelref11_Right.l0 k x0 x1 (wrap64 (x5 + 1))) else (some false))) else (none)) else (if (x0.length : Int) > 0 then (some (decide ((x0.length : Int) < 9))) else (some false))
def quarrelref11_Right.f (k : Nat) (l0 : List (S80)) (a1 : Int) : Option (Bool) := quarrelref11_Right.l0 k l0 a1 0
theorem quarrelref11_Right.mono_l : ∀ k, (∀ y0 y1 y2, LeO (quarrelref11_Right.l0 k y0 y1 y2) (quarrelref11_Right.l0 (k + 1) y0 y1 y2))
  | 0 => fun _ _ _ r h => by simp [quarrelref11_Right.l0] at h
  | k + 1 => by
    have ih0 := quarrelref11_Right.mono_l k
    · intro y0 y1 y2
      unfold quarrelref11_Right.l0
      repeat' first
      | (with_reducible exact ih0 _ _ _)
      | (with_reducible exact quarrelref11_Ok.mono _ _ _ _ _)
      | (with_reducible exact LeO.refl _)
      | (with_reducible exact LeO.none _)
      | (with_reducible refine LeO.ite ?_ ?_)
      | (with_reducible refine LeO.bind ?_ (fun _ => ?_))
      | exact ih0 _ _ _
      | exact quarrelref11_Ok.mono _ _ _ _ _
      | exact LeO.none _
      | refine LeO.ite ?_ ?_
      | refine LeO.bind ?_ (fun _ => ?_)
theorem quarrelref11_Right.mono : ∀ a0 a1 k, LeO (quarrelref11_Right.f k a0 a1) (quarrelref11_Right.f (k + 1) a0 a1) := by
  intro a0 a1 k
  have ih0 := quarrelref11_Right.mono_l k
  unfold quarrelref11_Right.f
  repeat' first
      | (with_reducible exact ih0 _ _ _)
      | (with_reducible exact quarrelref11_Ok.mono _ _ _ _ _)
      | (with_reducible exact LeO.refl _)
      | (with_reducible exact LeO.none _)
      | (with_reducible refine LeO.ite ?_ ?_)
      | (with_reducible refine LeO.bind ?_ (fun _ => ?_))
      | exact ih0 _ _ _
      | exact quarrelref11_Ok.mono _ _ _ _ _
      | exact LeO.none _
      | refine LeO.ite ?_ ?_
      | refine LeO.bind ?_ (fun _ => ?_)
set_option maxHeartbeats 8000000 in
set_option maxRecDepth 100000 in
theorem quarrelref11_Right.calls (k : Nat) (A0 : Option Addr) (c0 : Nat) (l0 : List (S80)) (a1 : Int) (r : Bool) (w : World) (hr0 : Kd.C k80 w A0 l0.length l0) (hc0 : l0.length ≤ c0) (h : quarrelref11_Right.f k l0 a1 = some r) :
  Calls Try.prog 32 #[.slice A0 l0.length c0, .int .i64 a1] w fun e w' => e = .returned (.bool r) ∧ Below w.heap.size w w' := by
 have hu80 := Try.underlying80
 have HR0 := Aside0.mk hr0
 have HC0 := Aside0.mk hc0
 clear hr0 hc0
 have HB := Aside0.mk (Below.refl w.heap.size w)
 have H : (quarrelref11_Right.l0 k l0 a1 0) = some r := h
 clear h
 have H' := Aside0.mk H
 clear H
 go_enter Try.func32, Try.ntmps32
 go_wp2
 go_loopg [5] k (fun kq v5 w' => ∃ (x5_1 : Int), v5 = .int .i64 x5_1 ∧ Aside0 (quarrelref11_Right.l0 kq l0 a1 x5_1 = some r) ∧ Aside0 (kq ≤ k) ∧ Aside0 (Below w.heap.size w w'))
 case atStart => exact ⟨(0), (by first | rfl | (simp; done) | (simp [*]; done)), H', ⟨Nat.le_refl _⟩, ⟨by repeat (first | (with_reducible first | exact HB.out | apply bwA | apply bwN | apply bw1) | exact HB.out)⟩⟩
 case round =>
  clear H'
  obtain ⟨x5_1, rfl, HA, HK1, HB⟩ := hrel
  cases gk with
  | zero => exact absurd HA.out (by simp [quarrelref11_Right.l0])
  | succ k1 =>
   have H := HA.out
   clear HA
   simp only [quarrelref11_Right.l0] at H
   by_cases c3 : x5_1 < (l0.length : Int)
   ·rw [if_pos c3] at H
    have c3b0 : decide (x5_1 < (l0.length : Int)) = true := decide_eq_true c3
    clear c3
    by_cases c4 : 0 ≤ x5_1
    ·rw [if_pos c4] at H
     have c4b0 : decide (0 ≤ x5_1) = true := decide_eq_true c4
     clear c4
     replace H := Option.bind_eq_some_iff.mp H
     obtain ⟨t245, A50, H⟩ := H
     replace H : (if t245 = true then (quarrelref11_Right.l0 k1 l0 a1 (wrap64 (x5_1 + 1))) else (some false)) = some r := H
     have A5 := Aside0.mk A50
     clear A50
     by_cases c6 : t245 = true
     ·subst c6
      have H1 : (quarrelref11_Right.l0 k1 l0 a1 (wrap64 (x5_1 + 1))) = some r := by rw [if_pos rfl] at H; exact H
      clear H
      have H := H1
      clear H1
      have H' := Aside0.mk H
      clear H
      have p244 : 0 ≤ (x5_1 : Int) := of_decide_eq_true (by first | (with_reducible assumption) | assumption)
      have q244 : x5_1 < (l0.length : Int) := of_decide_eq_true (by first | (with_reducible assumption) | assumption)
      obtain ⟨ad244, e244, hx244_0, hx244_1, hx244_2⟩ := at_T80 HR0.out x5_1 p244 q244
      cases e244
      replace hx244_0 := (HB.out.cell (World.block_lt_of_cell? w _ hx244_0)).trans hx244_0
      replace hx244_1 := (HB.out.cell (World.block_lt_of_cell? w _ hx244_1)).trans hx244_1
      replace hx244_2 := (HB.out.cell (World.block_lt_of_cell? w _ hx244_2)).trans hx244_2
      replace p244 := eq_true p244
      replace q244 := eq_true q244
      go_wp2_with (first | ((with_reducible refine gate_callee (f := 45) rfl ?_); refine goesL_ (some 17) rfl rfl Try.func45 (by kernel_rfl) rfl #[.agg #[.int .i64 ((rd_T80 l0 x5_1).f0), .int .i64 ((rd_T80 l0 x5_1).f1), .int .i64 ((rd_T80 l0 x5_1).f2)], .int .i64 a1] rfl (by (try simp only [List.map_toArray, List.map_cons, List.map_nil]); first | done | rfl | (simp only [List.length_drop, List.length_take]; rfl)) ?_; (with_reducible refine (quarrelref11_Ok.calls k1 ((rd_T80 l0 x5_1).f0) ((rd_T80 l0 x5_1).f1) ((rd_T80 l0 x5_1).f2) a1 true _ A5.out).mono ?_); rintro e w7 ⟨rfl, hb⟩; refine ⟨_, rfl, ?_⟩; have n0_ := Aside0.mk (below_step (by repeat (first | (with_reducible first | exact HB.out | apply bwA | apply bwN | apply bw1) | exact HB.out)) hb); clear HB; have HB := n0_; clear n0_; (try clear hb); (try clear hb2); (try clear hk); (try clear hi)))
      go_roundg k1
      case measure => have := HK1.out; omega
      case rel => exact ⟨(wrap64 (x5_1 + 1)), (by first | rfl | (simp; done) | (simp [*]; done)), H', ⟨by have := HK1.out; omega⟩, ⟨by repeat (first | (with_reducible first | exact HB.out | apply bwA | apply bwN | apply bw1) | exact HB.out)⟩⟩
     ·replace c6 := Bool.eq_false_iff.mpr c6
      subst c6
      have H1 : (some false) = some r := by rw [if_neg (show ¬ (false = true) by decide)] at H; exact H
      clear H
      have H := H1
      clear H1
      obtain rfl := Option.some.inj H
      have p244 : 0 ≤ (x5_1 : Int) := of_decide_eq_true (by first | (with_reducible assumption) | assumption)
      have q244 : x5_1 < (l0.length : Int) := of_decide_eq_true (by first | (with_reducible assumption) | assumption)
      obtain ⟨ad244, e244, hx244_0, hx244_1, hx244_2⟩ := at_T80 HR0.out x5_1 p244 q244
      cases e244
      replace hx244_0 := (HB.out.cell (World.block_lt_of_cell? w _ hx244_0)).trans hx244_0
      replace hx244_1 := (HB.out.cell (World.block_lt_of_cell? w _ hx244_1)).trans hx244_1
      replace hx244_2 := (HB.out.cell (World.block_lt_of_cell? w _ hx244_2)).trans hx244_2
      replace p244 := eq_true p244
      replace q244 := eq_true q244
      go_wp2_with (first | ((with_reducible refine gate_callee (f := 45) rfl ?_); refine goesL_ (some 17) rfl rfl Try.func45 (by kernel_rfl) rfl #[.agg #[.int .i64 ((rd_T80 l0 x5_1).f0), .int .i64 ((rd_T80 l0 x5_1).f1), .int .i64 ((rd_T80 l0 x5_1).f2)], .int .i64 a1] rfl (by (try simp only [List.map_toArray, List.map_cons, List.map_nil]); first | done | rfl | (simp only [List.length_drop, List.length_take]; rfl)) ?_; (with_reducible refine (quarrelref11_Ok.calls k1 ((rd_T80 l0 x5_1).f0) ((rd_T80 l0 x5_1).f1) ((rd_T80 l0 x5_1).f2) a1 false _ A5.out).mono ?_); rintro e w8 ⟨rfl, hb⟩; refine ⟨_, rfl, ?_⟩; have n0_ := Aside0.mk (below_step (by repeat (first | (with_reducible first | exact HB.out | apply bwA | apply bwN | apply bw1) | exact HB.out)) hb); clear HB; have HB := n0_; clear n0_; (try clear hb); (try clear hb2); (try clear hk); (try clear hi)))
      go_ret
      exact ⟨by first | rfl | (simp [errW_none, errW_some] <;> rfl) | (simp [*, errW_none, errW_some] <;> rfl), by repeat (first | (with_reducible first | exact HB.out | apply bwA | apply bwN | apply bw1) | exact HB.out)⟩
    ·rw [if_neg c4] at H
     exact absurd H (by simp)
   ·rw [if_neg c3] at H
    have c3b0 : decide (x5_1 < (l0.length : Int)) = false := decide_eq_false c3
    clear c3
    by_cases c9 : (l0.length : Int) > 0
    ·rw [if_pos c9] at H
     have c9b0 : decide (0 < (l0.length : Int)) = true := decide_eq_true c9
     have c9b1 : decide (0 < l0.length) = true := decide_eq_true (by omega)
     clear c9
     obtain rfl := Option.some.inj H
     go_wp2
     go_ret
     exact ⟨by first | rfl | (simp [errW_none, errW_some] <;> rfl) | (simp [*, errW_none, errW_some] <;> rfl), by repeat (first | (with_reducible first | exact HB.out | apply bwA | apply bwN | apply bw1) | exact HB.out)⟩
    ·rw [if_neg c9] at H
     have c9b0 : decide (0 < (l0.length : Int)) = false := decide_eq_false c9
     have c9b1 : decide (0 < l0.length) = false := decide_eq_false (by omega)
     clear c9
     obtain rfl := Option.some.inj H
     go_wp2
     go_ret
     exact ⟨by first | rfl | (simp [errW_none, errW_some] <;> rfl) | (simp [*, errW_none, errW_some] <;> rfl), by repeat (first | (with_reducible first | exact HB.out | apply bwA | apply bwN | apply bw1) | exact HB.out)⟩
end Go.Proofs.Ythfkgnkojhocbaa.S
end
section
namespace Go.Proofs.Ythfkgnkojhocbaa.S
open Go.RowKit Go.Proofs.YthfkgnkojhocbaaW.PrintWords Go.Proofs.YthfkgnkojhocbaaW.PrintLast Go.Proofs.YthfkgnkojhocbaaW.PrintMore
attribute [local go_sem] max2_int min2_int max_two min_two max_three min_three max_four min_four
set_option linter.unusedVariables false
set_option linter.unusedSimpArgs false
mutual
def quarrelref20_Ok.j0 : Nat → Bool → Int → Int → Int → Int → Int → Int → List Int → List Int → List (List (List (S80))) → List Int → Option (Bool)
  | 0, _, _, _, _, _, _, _, _, _, _, _ => none
  | k + 1, x27, x247000, x247001, x247002, x247003, x247004, x247005, x247006, x247007, x247008, x247009 => if x27 = true then (some false) else (quarrelref20_Ok.l0 k 0 x247000 x247001 x247002 x247003 x247004 x247005 x247006 x247007 x247008 x247009)
def quarrelref20_Ok.l0 : Nat → Int → Int → Int → Int → Int → Int → Int → List Int → List Int → List (List (List (S80))) → List Int → Option (Bool)
  | 0, _, _, _, _, _, _, _, _, _, _, _ => none
  | k + 1, x3, x247000, x247001, x247002, x247003, x247004, x247005, x247006, x247007, x247008, x247009 => if x3 < (x247006.length : Int) then (if 0 ≤ x3 then (if (rd x247006 x3) < (-128) then (some false) else (if (rd x247006 x3) > 127 then (some false) else (quarrelref20_Ok.l0 k (wrap64 (x3 + 1)) x247000 x247001 x247002 x247003 x247004 x247005 x247006 x247007 x247008 x247009))) else (none)) else (quarrelref20_Ok.l1 k 0 x247000 x247001 x247002 x247003 x247004 x247005 x247006 x247007 x247008 x247009)
def quarrelref20_Ok.l1 : Nat → Int → Int → Int → Int → Int → Int → Int → List Int → List Int → List (List (List (S80))) → List Int → Option (Bool)
  | 0, _, _, _, _, _, _, _, _, _, _, _ => none
  | k + 1, x4, x247000, x247001, x247002, x247003, x247004, x247005, x247006, x247007, x247008, x247009 => if x4 < (x247009.length : Int) then (if 0 ≤ x4 then (if (rd x247009 x4) < 0 then (some false) else (if (rd x247009 x4) > 255 then (some false) else (quarrelref20_Ok.l1 k (wrap64 (x4 + 1)) x247000 x247001 x247002 x247003 x247004 x247005 x247006 x247007 x247008 x247009))) else (none)) else (quarrelref20_Ok.l2 k 0 x247000 x247001 x247002 x247003 x247004 x247005 x247006 x247007 x247008 x247009)
def quarrelref20_Ok.l2 : Nat → Int → Int → Int → Int → Int → Int → Int → List Int → List Int → List (List (List (S80))) → List Int → Option (Bool)
  | 0, _, _, _, _, _, _, _, _, _, _, _ => none
  | k + 1, x5, x247000, x247001, x247002, x247003, x247004, x247005, x247006, x247007, x247008, x247009 => if x5 < (x247008.length : Int) then (if 0 ≤ x5 then (if ((rd_L7 x247008 x5).length : Int) > 6 then (some false) else (quarrelref20_Ok.l3 k x5 0 x247000 x247001 x247002 x247003 x247004 x247005 x247006 x247007 x247008 x247009)) else (none)) else (some true)
def quarrelref20_Ok.l3 : Nat → Int → Int → Int → Int → Int → Int → Int → Int → List Int → List Int → List (List (List (S80))) → List Int → Option (Bool)
  | 0, _, _, _, _, _, _, _, _, _, _, _, _ => none
  | k + 1, x5, x6, x247000, x247001, x247002, x247003, x247004, x247005, x247006, x247007, x247008, x247009 => if 0 ≤ x5 then (if x5 < (x247008.length : Int) then (if x6 < ((rd_L7 x247008 x5).length : Int) then (if 0 ≤ x6 then ((quarrelref11_Right.f k (rd_L6 (rd_L7 x247008 x5) x6) x247000).bind fun t256 => (if t256 = true then (quarrelref20_Ok.l3 k x5 (wrap64 (x6 + 1)) x247000 x247001 x247002 x247003 x247004 x247005 x247006 x247007 x247008 x247009) else (some false))) else (none)) else (quarrelref20_Ok.l2 k (wrap64 (x5 + 1)) x247000 x247001 x247002 x247003 x247004 x247005 x247006 x247007 x247008 x247009)) else (none)) else (none)
end
def quarrelref20_Ok.f (k : Nat) (a0_0 : Int) (a0_1 : Int) (a0_2 : Int) (a0_3 : Int) (a0_4 : Int) (a0_5 : Int) (l0_6 : List Int) (l0_7 : List Int) (l0_8 : List (List (List (S80)))) (l0_9 : List Int) : Option (Bool) := (quarrelref13_New.f k a0_0 a0_1 a0_2 a0_3 a0_4 a0_5 l0_6).bind fun t247 => (if t247 = 0 then (if (l0_8.length : Int) = a0_1 then (quarrelref20_Ok.j0 k (decide ((l0_7.length : Int) > 255)) a0_0 a0_1 a0_2 a0_3 a0_4 a0_5 l0_6 l0_7 l0_8 l0_9) else (quarrelref20_Ok.j0 k true a0_0 a0_1 a0_2 a0_3 a0_4 a0_5 l0_6 l0_7 l0_8 l0_9)) else (quarrelref20_Ok.j0 k true a0_0 a0_1 a0_2 a0_3 a0_4 a0_5 l0_6 l0_7 l0_8 l0_9))
theorem quarrelref20_Ok.mono_l : ∀ k, (∀ y0 y1 y2 y3 y4 y5 y6 y7 y8 y9 y10, LeO (quarrelref20_Ok.j0 k y0 y1 y2 y3 y4 y5 y6 y7 y8 y9 y10) (quarrelref20_Ok.j0 (k + 1) y0 y1 y2 y3 y4 y5 y6 y7 y8 y9 y10)) ∧ (∀ y0 y1 y2 y3 y4 y5 y6 y7 y8 y9 y10, LeO (quarrelref20_Ok.l0 k y0 y1 y2 y3 y4 y5 y6 y7 y8 y9 y10) (quarrelref20_Ok.l0 (k + 1) y0 y1 y2 y3 y4 y5 y6 y7 y8 y9 y10)) ∧ (∀ y0 y1 y2 y3 y4 y5 y6 y7 y8 y9 y10, LeO (quarrelref20_Ok.l1 k y0 y1 y2 y3 y4 y5 y6 y7 y8 y9 y10) (quarrelref20_Ok.l1 (k + 1) y0 y1 y2 y3 y4 y5 y6 y7 y8 y9 y10)) ∧ (∀ y0 y1 y2 y3 y4 y5 y6 y7 y8 y9 y10, LeO (quarrelref20_Ok.l2 k y0 y1 y2 y3 y4 y5 y6 y7 y8 y9 y10) (quarrelref20_Ok.l2 (k + 1) y0 y1 y2 y3 y4 y5 y6 y7 y8 y9 y10)) ∧ (∀ y0 y1 y2 y3 y4 y5 y6 y7 y8 y9 y10 y11, LeO (quarrelref20_Ok.l3 k y0 y1 y2 y3 y4 y5 y6 y7 y8 y9 y10 y11) (quarrelref20_Ok.l3 (k + 1) y0 y1 y2 y3 y4 y5 y6 y7 y8 y9 y10 y11))
  | 0 => ⟨fun _ _ _ _ _ _ _ _ _ _ _ r h => by simp [quarrelref20_Ok.j0] at h, fun _ _ _ _ _ _ _ _ _ _ _ r h => by simp [quarrelref20_Ok.l0] at h, fun _ _ _ _ _ _ _ _ _ _ _ r h => by simp [quarrelref20_Ok.l1] at h, fun _ _ _ _ _ _ _ _ _ _ _ r h => by simp [quarrelref20_Ok.l2] at h, fun _ _ _ _ _ _ _ _ _ _ _ _ r h => by simp [quarrelref20_Ok.l3] at h⟩
  | k + 1 => by
    obtain ⟨ih0, ih1, ih2, ih3, ih4⟩ := quarrelref20_Ok.mono_l k
    refine ⟨?_, ?_, ?_, ?_, ?_⟩
    · intro y0 y1 y2 y3 y4 y5 y6 y7 y8 y9 y10
      unfold quarrelref20_Ok.j0
      repeat' first
      | (with_reducible exact ih0 _ _ _ _ _ _ _ _ _ _ _)
      | (with_reducible exact ih1 _ _ _ _ _ _ _ _ _ _ _)
      | (with_reducible exact ih2 _ _ _ _ _ _ _ _ _ _ _)
      | (with_reducible exact ih3 _ _ _ _ _ _ _ _ _ _ _)
      | (with_reducible exact ih4 _ _ _ _ _ _ _ _ _ _ _ _)
      | (with_reducible exact quarrelref11_Right.mono _ _ _)
      | (with_reducible exact quarrelref13_New.mono _ _ _ _ _ _ _ _)
      | (with_reducible exact LeO.refl _)
      | (with_reducible exact LeO.none _)
      | (with_reducible refine LeO.ite ?_ ?_)
      | (with_reducible refine LeO.bind ?_ (fun _ => ?_))
      | exact ih0 _ _ _ _ _ _ _ _ _ _ _
      | exact ih1 _ _ _ _ _ _ _ _ _ _ _
      | exact ih2 _ _ _ _ _ _ _ _ _ _ _
      | exact ih3 _ _ _ _ _ _ _ _ _ _ _
      | exact ih4 _ _ _ _ _ _ _ _ _ _ _ _
      | exact quarrelref11_Right.mono _ _ _
      | exact quarrelref13_New.mono _ _ _ _ _ _ _ _
      | exact LeO.none _
      | refine LeO.ite ?_ ?_
      | refine LeO.bind ?_ (fun _ => ?_)
    · intro y0 y1 y2 y3 y4 y5 y6 y7 y8 y9 y10
      unfold quarrelref20_Ok.l0
      repeat' first
      | (with_reducible exact ih0 _ _ _ _ _ _ _ _ _ _ _)
      | (with_reducible exact ih1 _ _ _ _ _ _ _ _ _ _ _)
      | (with_reducible exact ih2 _ _ _ _ _ _ _ _ _ _ _)
      | (with_reducible exact ih3 _ _ _ _ _ _ _ _ _ _ _)
      | (with_reducible exact ih4 _ _ _ _ _ _ _ _ _ _ _ _)
      | (with_reducible exact quarrelref11_Right.mono _ _ _)
      | (with_reducible exact quarrelref13_New.mono _ _ _ _ _ _ _ _)
      | (with_reducible exact LeO.refl _)
      | (with_reducible exact LeO.none _)
      | (with_reducible refine LeO.ite ?_ ?_)
      | (with_reducible refine LeO.bind ?_ (fun _ => ?_))
      | exact ih0 _ _ _ _ _ _ _ _ _ _ _
      | exact ih1 _ _ _ _ _ _ _ _ _ _ _
      | exact ih2 _ _ _ _ _ _ _ _ _ _ _
      | exact ih3 _ _ _ _ _ _ _ _ _ _ _
      | exact ih4 _ _ _ _ _ _ _ _ _ _ _ _
      | exact quarrelref11_Right.mono _ _ _
      | exact quarrelref13_New.mono _ _ _ _ _ _ _ _
      | exact LeO.none _
      | refine LeO.ite ?_ ?_
      | refine LeO.bind ?_ (fun _ => ?_)
    · intro y0 y1 y2 y3 y4 y5 y6 y7 y8 y9 y10
      unfold quarrelref20_Ok.l1
      repeat' first
      | (with_reducible exact ih0 _ _ _ _ _ _ _ _ _ _ _)
      | (with_reducible exact ih1 _ _ _ _ _ _ _ _ _ _ _)
      | (with_reducible exact ih2 _ _ _ _ _ _ _ _ _ _ _)
      | (with_reducible exact ih3 _ _ _ _ _ _ _ _ _ _ _)
      | (with_reducible exact ih4 _ _ _ _ _ _ _ _ _ _ _ _)
      | (with_reducible exact quarrelref11_Right.mono _ _ _)
      | (with_reducible exact quarrelref13_New.mono _ _ _ _ _ _ _ _)
      | (with_reducible exact LeO.refl _)
      | (with_reducible exact LeO.none _)
      | (with_reducible refine LeO.ite ?_ ?_)
      | (with_reducible refine LeO.bind ?_ (fun _ => ?_))
      | exact ih0 _ _ _ _ _ _ _ _ _ _ _
      | exact ih1 _ _ _ _ _ _ _ _ _ _ _
      | exact ih2 _ _ _ _ _ _ _ _ _ _ _
      | exact ih3 _ _ _ _ _ _ _ _ _ _ _
      | exact ih4 _ _ _ _ _ _ _ _ _ _ _ _
      | exact quarrelref11_Right.mono _ _ _
      | exact quarrelref13_New.mono _ _ _ _ _ _ _ _
      | exact LeO.none _
      | refine LeO.ite ?_ ?_
      | refine LeO.bind ?_ (fun _ => ?_)
    · intro y0 y1 y2 y3 y4 y5 y6 y7 y8 y9 y10
      unfold quarrelref20_Ok.l2
      repeat' first
      | (with_reducible exact ih0 _ _ _ _ _ _ _ _ _ _ _)
      | (with_reducible exact ih1 _ _ _ _ _ _ _ _ _ _ _)
      | (with_reducible exact ih2 _ _ _ _ _ _ _ _ _ _ _)
      | (with_reducible exact ih3 _ _ _ _ _ _ _ _ _ _ _)
      | (with_reducible exact ih4 _ _ _ _ _ _ _ _ _ _ _ _)
      | (with_reducible exact quarrelref11_Right.mono _ _ _)
      | (with_reducible exact quarrelref13_New.mono _ _ _ _ _ _ _ _)
      | (with_reducible exact LeO.refl _)
      | (with_reducible exact LeO.none _)
      | (with_reducible refine LeO.ite ?_ ?_)
      | (with_reducible refine LeO.bind ?_ (fun _ => ?_))
      | exact ih0 _ _ _ _ _ _ _ _ _ _ _
      | exact ih1 _ _ _ _ _ _ _ _ _ _ _
      | exact ih2 _ _ _ _ _ _ _ _ _ _ _
      | exact ih3 _ _ _ _ _ _ _ _ _ _ _
      | exact ih4 _ _ _ _ _ _ _ _ _ _ _ _
      | exact quarrelref11_Right.mono _ _ _
      | exact quarrelref13_New.mono _ _ _ _ _ _ _ _
      | exact LeO.none _
      | refine LeO.ite ?_ ?_
      | refine LeO.bind ?_ (fun _ => ?_)
    · intro y0 y1 y2 y3 y4 y5 y6 y7 y8 y9 y10 y11
      unfold quarrelref20_Ok.l3
      repeat' first
      | (with_reducible exact ih0 _ _ _ _ _ _ _ _ _ _ _)
      | (with_reducible exact ih1 _ _ _ _ _ _ _ _ _ _ _)
      | (with_reducible exact ih2 _ _ _ _ _ _ _ _ _ _ _)
      | (with_reducible exact ih3 _ _ _ _ _ _ _ _ _ _ _)
      | (with_reducible exact ih4 _ _ _ _ _ _ _ _ _ _ _ _)
      | (with_reducible exact quarrelref11_Right.mono _ _ _)
      | (with_reducible exact quarrelref13_New.mono _ _ _ _ _ _ _ _)
      | (with_reducible exact LeO.refl _)
      | (with_reducible exact LeO.none _)
      | (with_reducible refine LeO.ite ?_ ?_)
      | (with_reducible refine LeO.bind ?_ (fun _ => ?_))
      | exact ih0 _ _ _ _ _ _ _ _ _ _ _
      | exact ih1 _ _ _ _ _ _ _ _ _ _ _
      | exact ih2 _ _ _ _ _ _ _ _ _ _ _
      | exact ih3 _ _ _ _ _ _ _ _ _ _ _
      | exact ih4 _ _ _ _ _ _ _ _ _ _ _ _
      | exact quarrelref11_Right.mono _ _ _
      | exact quarrelref13_New.mono _ _ _ _ _ _ _ _
      | exact LeO.none _
      | refine LeO.ite ?_ ?_
      | refine LeO.bind ?_ (fun _ => ?_)
theorem quarrelref20_Ok.mono : ∀ a0 a1 a2 a3 a4 a5 a6 a7 a8 a9 k, LeO (quarrelref20_Ok.f k a0 a1 a2 a3 a4 a5 a6 a7 a8 a9) (quarrelref20_Ok.f (k + 1) a0 a1 a2 a3 a4 a5 a6 a7 a8 a9) := by
  intro a0 a1 a2 a3 a4 a5 a6 a7 a8 a9 k
  obtain ⟨ih0, ih1, ih2, ih3, ih4⟩ := quarrelref20_Ok.mono_l k
  unfold quarrelref20_Ok.f
  repeat' first
      | (with_reducible exact ih0 _ _ _ _ _ _ _ _ _ _ _)
      | (with_reducible exact ih1 _ _ _ _ _ _ _ _ _ _ _)
      | (with_reducible exact ih2 _ _ _ _ _ _ _ _ _ _ _)
      | (with_reducible exact ih3 _ _ _ _ _ _ _ _ _ _ _)
      | (with_reducible exact ih4 _ _ _ _ _ _ _ _ _ _ _ _)
      | (with_reducible exact quarrelref11_Right.mono _ _ _)
      | (with_reducible exact quarrelref13_New.mono _ _ _ _ _ _ _ _)
      | (with_reducible exact LeO.refl _)
      | (with_reducible exact LeO.none _)
      | (with_reducible refine LeO.ite ?_ ?_)
      | (with_reducible refine LeO.bind ?_ (fun _ => ?_))
      | exact ih0 _ _ _ _ _ _ _ _ _ _ _
      | exact ih1 _ _ _ _ _ _ _ _ _ _ _
      | exact ih2 _ _ _ _ _ _ _ _ _ _ _
      | exact ih3 _ _ _ _ _ _ _ _ _ _ _
      | exact ih4 _ _ _ _ _ _ _ _ _ _ _ _
      | exact quarrelref11_Right.mono _ _ _
      | exact quarrelref13_New.mono _ _ _ _ _ _ _ _
      | exact LeO.none _
      | refine LeO.ite ?_ ?_
      | refine LeO.bind ?_ (fun _ => ?_)
def quarrelref20_Ok.T21 : Bool × List (List Nat × List Nat) := (true, [([], []), ([0], [0]), ([], []), ([1, 2], [1, 2]), ([3], [3]), ([], []), ([4, 5], [4, 5]), ([6], [6]), ([], []), ([8], [8]), ([9], [9]), ([7, 10], [7, 10]), ([11], [11])])
def quarrelref20_Ok.B21 : List Nat := [0, 1, 0, 7, 15, 0, 63, 127, 0, 256, 768, 2047, 4095]
theorem quarrelref20_Ok.tab21 : rtab .any (opsOf Try.f14 21) = quarrelref20_Ok.T21 := by kernel_rfl
theorem quarrelref20_Ok.bits21 : waitsOk quarrelref20_Ok.T21.2 quarrelref20_Ok.B21 = true := by kernel_rfl
set_option maxHeartbeats 8000000 in
set_option maxRecDepth 100000 in
theorem quarrelref20_Ok.calls (k : Nat) (a0_0 : Int) (a0_1 : Int) (a0_2 : Int) (a0_3 : Int) (a0_4 : Int) (a0_5 : Int) (A0_6 : Option Addr) (c0_6 : Nat) (l0_6 : List Int) (A0_7 : Option Addr) (c0_7 : Nat) (l0_7 : List Int) (A0_8 : Option Addr) (c0_8 : Nat) (l0_8 : List (List (List (S80)))) (A0_9 : Option Addr) (c0_9 : Nat) (l0_9 : List Int) (r : Bool) (w : World) (hr0_6 : Kd.C (Kd.int .i64) w A0_6 l0_6.length l0_6) (hc0_6 : l0_6.length ≤ c0_6) (hr0_7 : Kd.C (Kd.int .u8) w A0_7 l0_7.length l0_7) (hc0_7 : l0_7.length ≤ c0_7) (hr0_8 : Kd.C (Kd.slice 61 (Kd.slice 80 k80)) w A0_8 l0_8.length l0_8) (hc0_8 : l0_8.length ≤ c0_8) (hr0_9 : Kd.C (Kd.int .i64) w A0_9 l0_9.length l0_9) (hc0_9 : l0_9.length ≤ c0_9) (h : quarrelref20_Ok.f k a0_0 a0_1 a0_2 a0_3 a0_4 a0_5 l0_6 l0_7 l0_8 l0_9 = some r) :
  Calls Try.prog 14 #[.agg #[.int .i64 a0_0, .int .i64 a0_1, .int .i64 a0_2, .int .i64 a0_3, .int .i64 a0_4, .int .i64 a0_5, .slice A0_6 l0_6.length c0_6, .slice A0_7 l0_7.length c0_7, .slice A0_8 l0_8.length c0_8, .slice A0_9 l0_9.length c0_9]] w fun e w' => e = .returned (.bool r) ∧ Below w.heap.size w w' := by
 have hu34 := Try.underlying34
 have hu25 := Try.underlying25
 have HR0_6 := Aside0.mk hr0_6
 have HC0_6 := Aside0.mk hc0_6
 clear hr0_6 hc0_6
 have HR0_7 := Aside0.mk hr0_7
 have HC0_7 := Aside0.mk hc0_7
 clear hr0_7 hc0_7
 have HR0_8 := Aside0.mk hr0_8
 have HC0_8 := Aside0.mk hc0_8
 clear hr0_8 hc0_8
 have HR0_9 := Aside0.mk hr0_9
 have HC0_9 := Aside0.mk hc0_9
 clear hr0_9 hc0_9
 have HB := Aside0.mk (Below.refl w.heap.size w)
 have H : ((quarrelref13_New.f k a0_0 a0_1 a0_2 a0_3 a0_4 a0_5 l0_6).bind fun t247 => (if t247 = 0 then (if (l0_8.length : Int) = a0_1 then (quarrelref20_Ok.j0 k (decide ((l0_7.length : Int) > 255)) a0_0 a0_1 a0_2 a0_3 a0_4 a0_5 l0_6 l0_7 l0_8 l0_9) else (quarrelref20_Ok.j0 k true a0_0 a0_1 a0_2 a0_3 a0_4 a0_5 l0_6 l0_7 l0_8 l0_9)) else (quarrelref20_Ok.j0 k true a0_0 a0_1 a0_2 a0_3 a0_4 a0_5 l0_6 l0_7 l0_8 l0_9))) = some r := h
 clear h
 have HC2 := Aside0.mk H
 clear H
 go_enter Try.func14, Try.ntmps14
 go_upto_region 1 with (first | ((with_reducible refine gate_dst (N := 1) rfl ?_); (try (refine gate_guard (by rfl) ?_; dsimp only)); refine box_event ?hg (N := 1) ?hd (cs := #[.int .i64 a0_0, .int .i64 a0_1, .int .i64 a0_2, .int .i64 a0_3, .int .i64 a0_4, .int .i64 a0_5, .slice A0_6 l0_6.length c0_6, .slice A0_7 l0_7.length c0_7, .slice A0_8 l0_8.length c0_8, .slice A0_9 l0_9.length c0_9]) (t := 34) ?hr ?_; (case hd => rfl); (case hg => rfl); (case hr => first | (go_simp; done) | (go_simp; rfl)); intro gb246 hg w3 hbox hb; have n0_ := Aside0.mk (below_step (by repeat (first | (with_reducible first | exact HB.out | apply bwA | apply bwN | apply bw1) | exact HB.out)) hb); have n1_ := Aside0.mk (hbox); have n2_ := Aside0.mk ((by rw [hg]; exact (below_size (by repeat (first | (with_reducible first | exact HB.out | apply bwA | apply bwN | apply bw1) | exact HB.out))) : w.heap.size ≤ gb246)); have n3_ := Aside0.mk ((by rw [hg]; exact (below_size (by repeat (first | (with_reducible first | exact HB.out | apply bwA | apply bwN | apply bw1) | exact HB.out))) : w.heap.size ≤ gb246)); clear HB; have HB := n0_; have BK246 := n1_; have GW246 := n2_; have GE246 := n3_; clear n0_ n1_ n2_ n3_; clear hb hbox hg))
 (try simp only [Act.put, List.setIfInBounds_toArray, List.set_cons_zero, List.set_cons_succ])
 go_cut [27] (fun v27 wc => ∃ (kq : Nat) (x27_1 : Bool), v27 = .bool x27_1 ∧ Aside0 (quarrelref20_Ok.j0 kq x27_1 a0_0 a0_1 a0_2 a0_3 a0_4 a0_5 l0_6 l0_7 l0_8 l0_9 = some r) ∧ Aside0 (kq ≤ k) ∧ Aside0 (wc.heap[gb246]? = some (.cells #[.int .i64 a0_0, .int .i64 a0_1, .int .i64 a0_2, .int .i64 a0_3, .int .i64 a0_4, .int .i64 a0_5, (.slice A0_6 l0_6.length c0_6), (.slice A0_7 l0_7.length c0_7), (.slice A0_8 l0_8.length c0_8), (.slice A0_9 l0_9.length c0_9)] 34 (0, 0))) ∧ Aside0 (Below w.heap.size w wc))
 case first =>
  have H := HC2.out
  clear HC2
  replace H := Option.bind_eq_some_iff.mp H
  obtain ⟨t247, A40, H⟩ := H
  replace H : (if t247 = 0 then (if (l0_8.length : Int) = a0_1 then (quarrelref20_Ok.j0 k (decide ((l0_7.length : Int) > 255)) a0_0 a0_1 a0_2 a0_3 a0_4 a0_5 l0_6 l0_7 l0_8 l0_9) else (quarrelref20_Ok.j0 k true a0_0 a0_1 a0_2 a0_3 a0_4 a0_5 l0_6 l0_7 l0_8 l0_9)) else (quarrelref20_Ok.j0 k true a0_0 a0_1 a0_2 a0_3 a0_4 a0_5 l0_6 l0_7 l0_8 l0_9)) = some r := H
  have A4 := Aside0.mk A40
  clear A40
  by_cases c5 : t247 = 0
  ·rw [if_pos c5] at H
   have c5b0 : (t247 == 0) = true := beq_iff_eq.mpr c5
   have c5b1 : (t247 != 0) = false := bne_eq_false_iff_eq.mpr c5
   clear c5
   (first | rw [c5b0] | (simp only [i64_w, i32_w]; rw [c5b0]) | skip)
   by_cases c6 : (l0_8.length : Int) = a0_1
   ·rw [if_pos c6] at H
    have c6b0 : ((l0_8.length : Int) == a0_1) = true := beq_iff_eq.mpr c6
    have c6b1 : ((l0_8.length : Int) != a0_1) = false := bne_eq_false_iff_eq.mpr c6
    clear c6
    have H' := Aside0.mk H
    clear H
    obtain ⟨hcz7_0, hcz7_1, hcz7_2, hcz7_3, hcz7_4, hcz7_5, hcz7_6, hcz7_7, hcz7_8, hcz7_9, hfz7_0, hfz7_1, hfz7_2, hfz7_3, hfz7_4, hfz7_5, hfz7_6, hfz7_7, hfz7_8, hfz7_9⟩ := cf10 BK246.out
    go_wp2_with (first | ((with_reducible refine gate_callee (f := 31) rfl ?_); refine goesL_ (some 11) rfl rfl Try.func31 (by kernel_rfl) rfl #[.agg #[.int .i64 a0_0, .int .i64 a0_1, .int .i64 a0_2, .int .i64 a0_3, .int .i64 a0_4, .int .i64 a0_5], .slice A0_6 l0_6.length c0_6] rfl (by (try simp only [List.map_toArray, List.map_cons, List.map_nil]); first | done | rfl | (simp only [List.length_drop, List.length_take]; rfl)) ?_; (with_reducible refine (quarrelref13_New.calls k a0_0 a0_1 a0_2 a0_3 a0_4 a0_5 _ _ l0_6 t247 _ ?side1 ?side2 A4.out).mono ?_); (case side1 => repeat (first | exact (Kd.C_below HR0_6.out HB.out) | (with_reducible refine Kd.C_alloc ?_ _) | (with_reducible refine Kd.C_drewN ?_ _) | (with_reducible refine Kd.C_drew ?_))); (case side2 => exact HC0_6.out); rintro e w8 ⟨rfl, hb⟩; refine ⟨_, rfl, ?_⟩; have n0_ := Aside0.mk (blk_below (g := gb246) (o := .cells #[.int .i64 a0_0, .int .i64 a0_1, .int .i64 a0_2, .int .i64 a0_3, .int .i64 a0_4, .int .i64 a0_5, .slice A0_6 l0_6.length c0_6, .slice A0_7 l0_7.length c0_7, .slice A0_8 l0_8.length c0_8, .slice A0_9 l0_9.length c0_9] 34 (0, 0)) (by (with_reducible repeat (first | refine blk_drewN ?_ _ | refine blk_drew ?_ | refine blk_alloc ?_ _)); exact BK246.out) hb); have n1_ := Aside0.mk (below_step (by repeat (first | (with_reducible first | exact HB.out | apply bwA | apply bwN | apply bw1 | refine bwS ?_ GE246.out) | exact HB.out)) hb); clear BK246; clear HB; have BK246 := n0_; have HB := n1_; clear n0_ n1_; (try clear hb); (try clear hb2); (try clear hk); (try clear hi); obtain ⟨hcz9_0, hcz9_1, hcz9_2, hcz9_3, hcz9_4, hcz9_5, hcz9_6, hcz9_7, hcz9_8, hcz9_9, hfz9_0, hfz9_1, hfz9_2, hfz9_3, hfz9_4, hfz9_5, hfz9_6, hfz9_7, hfz9_8, hfz9_9⟩ := cf10 BK246.out))
    go_meet
    case rel => exact ⟨_, (decide ((l0_7.length : Int) > 255)), (by first | rfl | (simp; done) | (simp [*]; done)), H', ⟨by first | omega | exact Nat.le_refl _⟩, ⟨by (with_reducible repeat (first | refine blk_drewN ?_ _ | refine blk_drew ?_ | refine blk_alloc ?_ _)); exact BK246.out⟩, ⟨by repeat (first | (with_reducible first | exact HB.out | apply bwA | apply bwN | apply bw1 | refine bwS ?_ GE246.out) | exact HB.out)⟩⟩
   ·rw [if_neg c6] at H
    have c6b0 : ((l0_8.length : Int) == a0_1) = false := beq_eq_false_iff_ne.mpr c6
    have c6b1 : ((l0_8.length : Int) != a0_1) = true := bne_iff_ne.mpr c6
    have H' := Aside0.mk H
    clear H
    obtain ⟨hcz10_0, hcz10_1, hcz10_2, hcz10_3, hcz10_4, hcz10_5, hcz10_6, hcz10_7, hcz10_8, hcz10_9, hfz10_0, hfz10_1, hfz10_2, hfz10_3, hfz10_4, hfz10_5, hfz10_6, hfz10_7, hfz10_8, hfz10_9⟩ := cf10 BK246.out
    go_wp2_with (first | ((with_reducible refine gate_callee (f := 31) rfl ?_); refine goesL_ (some 11) rfl rfl Try.func31 (by kernel_rfl) rfl #[.agg #[.int .i64 a0_0, .int .i64 a0_1, .int .i64 a0_2, .int .i64 a0_3, .int .i64 a0_4, .int .i64 a0_5], .slice A0_6 l0_6.length c0_6] rfl (by (try simp only [List.map_toArray, List.map_cons, List.map_nil]); first | done | rfl | (simp only [List.length_drop, List.length_take]; rfl)) ?_; (with_reducible refine (quarrelref13_New.calls k a0_0 a0_1 a0_2 a0_3 a0_4 a0_5 _ _ l0_6 t247 _ ?side1 ?side2 A4.out).mono ?_); (case side1 => repeat (first | exact (Kd.C_below HR0_6.out HB.out) | (with_reducible refine Kd.C_alloc ?_ _) | (with_reducible refine Kd.C_drewN ?_ _) | (with_reducible refine Kd.C_drew ?_))); (case side2 => exact HC0_6.out); rintro e w11 ⟨rfl, hb⟩; refine ⟨_, rfl, ?_⟩; have n0_ := Aside0.mk (blk_below (g := gb246) (o := .cells #[.int .i64 a0_0, .int .i64 a0_1, .int .i64 a0_2, .int .i64 a0_3, .int .i64 a0_4, .int .i64 a0_5, .slice A0_6 l0_6.length c0_6, .slice A0_7 l0_7.length c0_7, .slice A0_8 l0_8.length c0_8, .slice A0_9 l0_9.length c0_9] 34 (0, 0)) (by (with_reducible repeat (first | refine blk_drewN ?_ _ | refine blk_drew ?_ | refine blk_alloc ?_ _)); exact BK246.out) hb); have n1_ := Aside0.mk (below_step (by repeat (first | (with_reducible first | exact HB.out | apply bwA | apply bwN | apply bw1 | refine bwS ?_ GE246.out) | exact HB.out)) hb); clear BK246; clear HB; have BK246 := n0_; have HB := n1_; clear n0_ n1_; (try clear hb); (try clear hb2); (try clear hk); (try clear hi); obtain ⟨hcz12_0, hcz12_1, hcz12_2, hcz12_3, hcz12_4, hcz12_5, hcz12_6, hcz12_7, hcz12_8, hcz12_9, hfz12_0, hfz12_1, hfz12_2, hfz12_3, hfz12_4, hfz12_5, hfz12_6, hfz12_7, hfz12_8, hfz12_9⟩ := cf10 BK246.out))
    go_meet
    case rel => exact ⟨_, (true), (by first | rfl | (simp; done) | (simp [*]; done)), H', ⟨by first | omega | exact Nat.le_refl _⟩, ⟨by (with_reducible repeat (first | refine blk_drewN ?_ _ | refine blk_drew ?_ | refine blk_alloc ?_ _)); exact BK246.out⟩, ⟨by repeat (first | (with_reducible first | exact HB.out | apply bwA | apply bwN | apply bw1 | refine bwS ?_ GE246.out) | exact HB.out)⟩⟩
  ·rw [if_neg c5] at H
   have c5b0 : (t247 == 0) = false := beq_eq_false_iff_ne.mpr c5
   have c5b1 : (t247 != 0) = true := bne_iff_ne.mpr c5
   (first | rw [c5b0] | (simp only [i64_w, i32_w]; rw [c5b0]) | skip)
   have H' := Aside0.mk H
   clear H
   obtain ⟨hcz13_0, hcz13_1, hcz13_2, hcz13_3, hcz13_4, hcz13_5, hcz13_6, hcz13_7, hcz13_8, hcz13_9, hfz13_0, hfz13_1, hfz13_2, hfz13_3, hfz13_4, hfz13_5, hfz13_6, hfz13_7, hfz13_8, hfz13_9⟩ := cf10 BK246.out
   go_wp2_with (first | ((with_reducible refine gate_callee (f := 31) rfl ?_); refine goesL_ (some 11) rfl rfl Try.func31 (by kernel_rfl) rfl #[.agg #[.int .i64 a0_0, .int .i64 a0_1, .int .i64 a0_2, .int .i64 a0_3, .int .i64 a0_4, .int .i64 a0_5], .slice A0_6 l0_6.length c0_6] rfl (by (try simp only [List.map_toArray, List.map_cons, List.map_nil]); first | done | rfl | (simp only [List.length_drop, List.length_take]; rfl)) ?_; (with_reducible refine (quarrelref13_New.calls k a0_0 a0_1 a0_2 a0_3 a0_4 a0_5 _ _ l0_6 t247 _ ?side1 ?side2 A4.out).mono ?_); (case side1 => repeat (first | exact (Kd.C_below HR0_6.out HB.out) | (with_reducible refine Kd.C_alloc ?_ _) | (with_reducible refine Kd.C_drewN ?_ _) | (with_reducible refine Kd.C_drew ?_))); (case side2 => exact HC0_6.out); rintro e w14 ⟨rfl, hb⟩; refine ⟨_, rfl, ?_⟩; have n0_ := Aside0.mk (blk_below (g := gb246) (o := .cells #[.int .i64 a0_0, .int .i64 a0_1, .int .i64 a0_2, .int .i64 a0_3, .int .i64 a0_4, .int .i64 a0_5, .slice A0_6 l0_6.length c0_6, .slice A0_7 l0_7.length c0_7, .slice A0_8 l0_8.length c0_8, .slice A0_9 l0_9.length c0_9] 34 (0, 0)) (by (with_reducible repeat (first | refine blk_drewN ?_ _ | refine blk_drew ?_ | refine blk_alloc ?_ _)); exact BK246.out) hb); have n1_ := Aside0.mk (below_step (by repeat (first | (with_reducible first | exact HB.out | apply bwA | apply bwN | apply bw1 | refine bwS ?_ GE246.out) | exact HB.out)) hb); clear BK246; clear HB; have BK246 := n0_; have HB := n1_; clear n0_ n1_; (try clear hb); (try clear hb2); (try clear hk); (try clear hi)))
   go_meet
   case rel => exact ⟨_, (true), (by first | rfl | (simp; done) | (simp [*]; done)), H', ⟨by first | omega | exact Nat.le_refl _⟩, ⟨by (with_reducible repeat (first | refine blk_drewN ?_ _ | refine blk_drew ?_ | refine blk_alloc ?_ _)); exact BK246.out⟩, ⟨by repeat (first | (with_reducible first | exact HB.out | apply bwA | apply bwN | apply bw1 | refine bwS ?_ GE246.out) | exact HB.out)⟩⟩
 case rest =>
  clear HC2
  obtain ⟨kq, x27_1, rfl, HA, HJ1, BK246, HB⟩ := hcut
  cases kq with
  | zero => exact absurd HA.out (by simp [quarrelref20_Ok.j0])
  | succ kj1 =>
   have H := HA.out
   clear HA
   simp only [quarrelref20_Ok.j0] at H
   by_cases c15 : x27_1 = true
   ·subst c15
    have H1 : (some false) = some r := by rw [if_pos rfl] at H; exact H
    clear H
    have H := H1
    clear H1
    obtain rfl := Option.some.inj H
    go_wp2
    go_ret
    exact ⟨by first | rfl | (simp [errW_none, errW_some] <;> rfl) | (simp [*, errW_none, errW_some] <;> rfl), by repeat (first | (with_reducible first | exact HB.out | apply bwA | apply bwN | apply bw1 | refine bwS ?_ GE246.out) | exact HB.out)⟩
   ·replace c15 := Bool.eq_false_iff.mpr c15
    subst c15
    have H1 : (quarrelref20_Ok.l0 kj1 0 a0_0 a0_1 a0_2 a0_3 a0_4 a0_5 l0_6 l0_7 l0_8 l0_9) = some r := by rw [if_neg (show ¬ (false = true) by decide)] at H; exact H
    clear H
    have H := H1
    clear H1
    have H' := Aside0.mk H
    clear H
    go_wp2
    go_loopg [3] kj1 (fun kq v3 w' => ∃ (x3_2 : Int), v3 = .int .i64 x3_2 ∧ Aside0 (quarrelref20_Ok.l0 kq x3_2 a0_0 a0_1 a0_2 a0_3 a0_4 a0_5 l0_6 l0_7 l0_8 l0_9 = some r) ∧ Aside0 (kq ≤ kj1) ∧ Aside0 (w'.heap[gb246]? = some (.cells #[.int .i64 a0_0, .int .i64 a0_1, .int .i64 a0_2, .int .i64 a0_3, .int .i64 a0_4, .int .i64 a0_5, (.slice A0_6 l0_6.length c0_6), (.slice A0_7 l0_7.length c0_7), (.slice A0_8 l0_8.length c0_8), (.slice A0_9 l0_9.length c0_9)] 34 (0, 0))) ∧ Aside0 (Below w.heap.size w w'))
    case atStart => exact ⟨(0), (by first | rfl | (simp; done) | (simp [*]; done)), H', ⟨Nat.le_refl _⟩, ⟨by (with_reducible repeat (first | refine blk_drewN ?_ _ | refine blk_drew ?_ | refine blk_alloc ?_ _)); exact BK246.out⟩, ⟨by repeat (first | (with_reducible first | exact HB.out | apply bwA | apply bwN | apply bw1 | refine bwS ?_ GE246.out) | exact HB.out)⟩⟩
    case round =>
     clear H'
     try clear c15
     obtain ⟨x3_2, rfl, HA, HK2, BK246, HB⟩ := hrel
     cases gk with
     | zero => exact absurd HA.out (by simp [quarrelref20_Ok.l0])
     | succ k2 =>
      have H := HA.out
      clear HA
      simp only [quarrelref20_Ok.l0] at H
      by_cases c16 : x3_2 < (l0_6.length : Int)
      ·rw [if_pos c16] at H
       have c16b0 : decide (x3_2 < (l0_6.length : Int)) = true := decide_eq_true c16
       clear c16
       by_cases c17 : 0 ≤ x3_2
       ·rw [if_pos c17] at H
        have c17b0 : decide (0 ≤ x3_2) = true := decide_eq_true c17
        clear c17
        by_cases c18 : (rd l0_6 x3_2) < (-128)
        ·rw [if_pos c18] at H
         have c18b0 : decide ((rd l0_6 x3_2) < (-128)) = true := decide_eq_true c18
         clear c18
         obtain rfl := Option.some.inj H
         obtain ⟨hcz19_0, hcz19_1, hcz19_2, hcz19_3, hcz19_4, hcz19_5, hcz19_6, hcz19_7, hcz19_8, hcz19_9, hfz19_0, hfz19_1, hfz19_2, hfz19_3, hfz19_4, hfz19_5, hfz19_6, hfz19_7, hfz19_8, hfz19_9⟩ := cf10 BK246.out
         have p248 : 0 ≤ (x3_2 : Int) := of_decide_eq_true (by first | (with_reducible assumption) | assumption)
         have q248 : x3_2 < (l0_6.length : Int) := of_decide_eq_true (by first | (with_reducible assumption) | assumption)
         obtain ⟨ad248, e248, hx248_0⟩ := Kd.at_int HR0_6.out x3_2 p248 q248
         cases e248
         replace hx248_0 := (HB.out.cell (World.block_lt_of_cell? w _ hx248_0)).trans hx248_0
         replace p248 := eq_true p248
         replace q248 := eq_true q248
         go_wp2
         go_ret
         exact ⟨by first | rfl | (simp [errW_none, errW_some] <;> rfl) | (simp [*, errW_none, errW_some] <;> rfl), by repeat (first | (with_reducible first | exact HB.out | apply bwA | apply bwN | apply bw1 | refine bwS ?_ GE246.out) | exact HB.out)⟩
        ·rw [if_neg c18] at H
         have c18b0 : decide ((rd l0_6 x3_2) < (-128)) = false := decide_eq_false c18
         clear c18
         by_cases c20 : (rd l0_6 x3_2) > 127
         ·rw [if_pos c20] at H
          have c20b0 : decide (127 < (rd l0_6 x3_2)) = true := decide_eq_true c20
          clear c20
          obtain rfl := Option.some.inj H
          obtain ⟨hcz21_0, hcz21_1, hcz21_2, hcz21_3, hcz21_4, hcz21_5, hcz21_6, hcz21_7, hcz21_8, hcz21_9, hfz21_0, hfz21_1, hfz21_2, hfz21_3, hfz21_4, hfz21_5, hfz21_6, hfz21_7, hfz21_8, hfz21_9⟩ := cf10 BK246.out
          have p248 : 0 ≤ (x3_2 : Int) := of_decide_eq_true (by first | (with_reducible assumption) | assumption)
          have q248 : x3_2 < (l0_6.length : Int) := of_decide_eq_true (by first | (with_reducible assumption) | assumption)
          obtain ⟨ad248, e248, hx248_0⟩ := Kd.at_int HR0_6.out x3_2 p248 q248
          cases e248
          replace hx248_0 := (HB.out.cell (World.block_lt_of_cell? w _ hx248_0)).trans hx248_0
          replace p248 := eq_true p248
          replace q248 := eq_true q248
          have p249 : 0 ≤ (x3_2 : Int) := of_decide_eq_true (by first | (with_reducible assumption) | assumption)
          have q249 : x3_2 < (l0_6.length : Int) := of_decide_eq_true (by first | (with_reducible assumption) | assumption)
          obtain ⟨ad249, e249, hx249_0⟩ := Kd.at_int HR0_6.out x3_2 p249 q249
          obtain rfl : ad248 = ad249 := (by injection e249)
          replace hx249_0 := (HB.out.cell (World.block_lt_of_cell? w _ hx249_0)).trans hx249_0
          replace p249 := eq_true p249
          replace q249 := eq_true q249
          go_wp2
          go_ret
          exact ⟨by first | rfl | (simp [errW_none, errW_some] <;> rfl) | (simp [*, errW_none, errW_some] <;> rfl), by repeat (first | (with_reducible first | exact HB.out | apply bwA | apply bwN | apply bw1 | refine bwS ?_ GE246.out) | exact HB.out)⟩
         ·rw [if_neg c20] at H
          have c20b0 : decide (127 < (rd l0_6 x3_2)) = false := decide_eq_false c20
          clear c20
          have H' := Aside0.mk H
          clear H
          obtain ⟨hcz22_0, hcz22_1, hcz22_2, hcz22_3, hcz22_4, hcz22_5, hcz22_6, hcz22_7, hcz22_8, hcz22_9, hfz22_0, hfz22_1, hfz22_2, hfz22_3, hfz22_4, hfz22_5, hfz22_6, hfz22_7, hfz22_8, hfz22_9⟩ := cf10 BK246.out
          have p248 : 0 ≤ (x3_2 : Int) := of_decide_eq_true (by first | (with_reducible assumption) | assumption)
          have q248 : x3_2 < (l0_6.length : Int) := of_decide_eq_true (by first | (with_reducible assumption) | assumption)
          obtain ⟨ad248, e248, hx248_0⟩ := Kd.at_int HR0_6.out x3_2 p248 q248
          cases e248
          replace hx248_0 := (HB.out.cell (World.block_lt_of_cell? w _ hx248_0)).trans hx248_0
          replace p248 := eq_true p248
          replace q248 := eq_true q248
          have p249 : 0 ≤ (x3_2 : Int) := of_decide_eq_true (by first | (with_reducible assumption) | assumption)
          have q249 : x3_2 < (l0_6.length : Int) := of_decide_eq_true (by first | (with_reducible assumption) | assumption)
          obtain ⟨ad249, e249, hx249_0⟩ := Kd.at_int HR0_6.out x3_2 p249 q249
          obtain rfl : ad248 = ad249 := (by injection e249)
          replace hx249_0 := (HB.out.cell (World.block_lt_of_cell? w _ hx249_0)).trans hx249_0
          replace p249 := eq_true p249
          replace q249 := eq_true q249
          go_wp2
          go_roundg k2
          case measure => have := HJ1.out; have := HK2.out; omega
          case rel => exact ⟨(wrap64 (x3_2 + 1)), (by first | rfl | (simp; done) | (simp [*]; done)), H', ⟨by have := HJ1.out; have := HK2.out; omega⟩, ⟨by (with_reducible repeat (first | refine blk_drewN ?_ _ | refine blk_drew ?_ | refine blk_alloc ?_ _)); exact BK246.out⟩, ⟨by repeat (first | (with_reducible first | exact HB.out | apply bwA | apply bwN | apply bw1 | refine bwS ?_ GE246.out) | exact HB.out)⟩⟩
       ·rw [if_neg c17] at H
        exact absurd H (by simp)
      ·rw [if_neg c16] at H
       have c16b0 : decide (x3_2 < (l0_6.length : Int)) = false := decide_eq_false c16
       clear c16
       have H' := Aside0.mk H
       clear H
       obtain ⟨hcz23_0, hcz23_1, hcz23_2, hcz23_3, hcz23_4, hcz23_5, hcz23_6, hcz23_7, hcz23_8, hcz23_9, hfz23_0, hfz23_1, hfz23_2, hfz23_3, hfz23_4, hfz23_5, hfz23_6, hfz23_7, hfz23_8, hfz23_9⟩ := cf10 BK246.out
       go_wp2
       go_loopg [4] k2 (fun kq v4 w' => ∃ (x4_3 : Int), v4 = .int .i64 x4_3 ∧ Aside0 (quarrelref20_Ok.l1 kq x4_3 a0_0 a0_1 a0_2 a0_3 a0_4 a0_5 l0_6 l0_7 l0_8 l0_9 = some r) ∧ Aside0 (kq ≤ k2) ∧ Aside0 (w'.heap[gb246]? = some (.cells #[.int .i64 a0_0, .int .i64 a0_1, .int .i64 a0_2, .int .i64 a0_3, .int .i64 a0_4, .int .i64 a0_5, (.slice A0_6 l0_6.length c0_6), (.slice A0_7 l0_7.length c0_7), (.slice A0_8 l0_8.length c0_8), (.slice A0_9 l0_9.length c0_9)] 34 (0, 0))) ∧ Aside0 (Below w.heap.size w w'))
       case atStart => exact ⟨(0), (by first | rfl | (simp; done) | (simp [*]; done)), H', ⟨Nat.le_refl _⟩, ⟨by (with_reducible repeat (first | refine blk_drewN ?_ _ | refine blk_drew ?_ | refine blk_alloc ?_ _)); exact BK246.out⟩, ⟨by repeat (first | (with_reducible first | exact HB.out | apply bwA | apply bwN | apply bw1 | refine bwS ?_ GE246.out) | exact HB.out)⟩⟩
       case round =>
        clear H'
        try clear c15
        try clear c16
        try clear c16b0
        try clear hcz23_0 hcz23_1 hcz23_2 hcz23_3 hcz23_4 hcz23_5 hcz23_6 hcz23_7 hcz23_8 hcz23_9
        try clear hfz23_0 hfz23_1 hfz23_2 hfz23_3 hfz23_4 hfz23_5 hfz23_6 hfz23_7 hfz23_8 hfz23_9
        obtain ⟨x4_3, rfl, HA, HK3, BK246, HB⟩ := hrel
        cases gk with
        | zero => exact absurd HA.out (by simp [quarrelref20_Ok.l1])
        | succ k3 =>
         have H := HA.out
         clear HA
         simp only [quarrelref20_Ok.l1] at H
         by_cases c24 : x4_3 < (l0_9.length : Int)
         ·rw [if_pos c24] at H
          have c24b0 : decide (x4_3 < (l0_9.length : Int)) = true := decide_eq_true c24
          clear c24
          by_cases c25 : 0 ≤ x4_3
          ·rw [if_pos c25] at H
           have c25b0 : decide (0 ≤ x4_3) = true := decide_eq_true c25
           clear c25
           by_cases c26 : (rd l0_9 x4_3) < 0
           ·rw [if_pos c26] at H
            have c26b0 : decide ((rd l0_9 x4_3) < 0) = true := decide_eq_true c26
            clear c26
            obtain rfl := Option.some.inj H
            obtain ⟨hcz27_0, hcz27_1, hcz27_2, hcz27_3, hcz27_4, hcz27_5, hcz27_6, hcz27_7, hcz27_8, hcz27_9, hfz27_0, hfz27_1, hfz27_2, hfz27_3, hfz27_4, hfz27_5, hfz27_6, hfz27_7, hfz27_8, hfz27_9⟩ := cf10 BK246.out
            have p250 : 0 ≤ (x4_3 : Int) := of_decide_eq_true (by first | (with_reducible assumption) | assumption)
            have q250 : x4_3 < (l0_9.length : Int) := of_decide_eq_true (by first | (with_reducible assumption) | assumption)
            obtain ⟨ad250, e250, hx250_0⟩ := Kd.at_int HR0_9.out x4_3 p250 q250
            cases e250
            replace hx250_0 := (HB.out.cell (World.block_lt_of_cell? w _ hx250_0)).trans hx250_0
            replace p250 := eq_true p250
            replace q250 := eq_true q250
            go_wp2
            go_ret
            exact ⟨by first | rfl | (simp [errW_none, errW_some] <;> rfl) | (simp [*, errW_none, errW_some] <;> rfl), by repeat (first | (with_reducible first | exact HB.out | apply bwA | apply bwN | apply bw1 | refine bwS ?_ GE246.out) | exact HB.out)⟩
           ·rw [if_neg c26] at H
            have c26b0 : decide ((rd l0_9 x4_3) < 0) = false := decide_eq_false c26
            clear c26
            by_cases c28 : (rd l0_9 x4_3) > 255
            ·rw [if_pos c28] at H
             have c28b0 : decide (255 < (rd l0_9 x4_3)) = true := decide_eq_true c28
             clear c28
             obtain rfl := Option.some.inj H
             obtain ⟨hcz29_0, hcz29_1, hcz29_2, hcz29_3, hcz29_4, hcz29_5, hcz29_6, hcz29_7, hcz29_8, hcz29_9, hfz29_0, hfz29_1, hfz29_2, hfz29_3, hfz29_4, hfz29_5, hfz29_6, hfz29_7, hfz29_8, hfz29_9⟩ := cf10 BK246.out
             have p250 : 0 ≤ (x4_3 : Int) := of_decide_eq_true (by first | (with_reducible assumption) | assumption)
             have q250 : x4_3 < (l0_9.length : Int) := of_decide_eq_true (by first | (with_reducible assumption) | assumption)
             obtain ⟨ad250, e250, hx250_0⟩ := Kd.at_int HR0_9.out x4_3 p250 q250
             cases e250
             replace hx250_0 := (HB.out.cell (World.block_lt_of_cell? w _ hx250_0)).trans hx250_0
             replace p250 := eq_true p250
             replace q250 := eq_true q250
             have p251 : 0 ≤ (x4_3 : Int) := of_decide_eq_true (by first | (with_reducible assumption) | assumption)
             have q251 : x4_3 < (l0_9.length : Int) := of_decide_eq_true (by first | (with_reducible assumption) | assumption)
             obtain ⟨ad251, e251, hx251_0⟩ := Kd.at_int HR0_9.out x4_3 p251 q251
             obtain rfl : ad250 = ad251 := (by injection e251)
             replace hx251_0 := (HB.out.cell (World.block_lt_of_cell? w _ hx251_0)).trans hx251_0
             replace p251 := eq_true p251
             replace q251 := eq_true q251
             go_wp2
             go_ret
             exact ⟨by first | rfl | (simp [errW_none, errW_some] <;> rfl) | (simp [*, errW_none, errW_some] <;> rfl), by repeat (first | (with_reducible first | exact HB.out | apply bwA | apply bwN | apply bw1 | refine bwS ?_ GE246.out) | exact HB.out)⟩
            ·rw [if_neg c28] at H
             have c28b0 : decide (255 < (rd l0_9 x4_3)) = false := decide_eq_false c28
             clear c28
             have H' := Aside0.mk H
             clear H
             obtain ⟨hcz30_0, hcz30_1, hcz30_2, hcz30_3, hcz30_4, hcz30_5, hcz30_6, hcz30_7, hcz30_8, hcz30_9, hfz30_0, hfz30_1, hfz30_2, hfz30_3, hfz30_4, hfz30_5, hfz30_6, hfz30_7, hfz30_8, hfz30_9⟩ := cf10 BK246.out
             have p250 : 0 ≤ (x4_3 : Int) := of_decide_eq_true (by first | (with_reducible assumption) | assumption)
             have q250 : x4_3 < (l0_9.length : Int) := of_decide_eq_true (by first | (with_reducible assumption) | assumption)
             obtain ⟨ad250, e250, hx250_0⟩ := Kd.at_int HR0_9.out x4_3 p250 q250
             cases e250
             replace hx250_0 := (HB.out.cell (World.block_lt_of_cell? w _ hx250_0)).trans hx250_0
             replace p250 := eq_true p250
             replace q250 := eq_true q250
             have p251 : 0 ≤ (x4_3 : Int) := of_decide_eq_true (by first | (with_reducible assumption) | assumption)
             have q251 : x4_3 < (l0_9.length : Int) := of_decide_eq_true (by first | (with_reducible assumption) | assumption)
             obtain ⟨ad251, e251, hx251_0⟩ := Kd.at_int HR0_9.out x4_3 p251 q251
             obtain rfl : ad250 = ad251 := (by injection e251)
             replace hx251_0 := (HB.out.cell (World.block_lt_of_cell? w _ hx251_0)).trans hx251_0
             replace p251 := eq_true p251
             replace q251 := eq_true q251
             go_wp2
             go_roundg k3
             case measure => have := HJ1.out; have := HK2.out; have := HK3.out; omega
             case rel => exact ⟨(wrap64 (x4_3 + 1)), (by first | rfl | (simp; done) | (simp [*]; done)), H', ⟨by have := HJ1.out; have := HK2.out; have := HK3.out; omega⟩, ⟨by (with_reducible repeat (first | refine blk_drewN ?_ _ | refine blk_drew ?_ | refine blk_alloc ?_ _)); exact BK246.out⟩, ⟨by repeat (first | (with_reducible first | exact HB.out | apply bwA | apply bwN | apply bw1 | refine bwS ?_ GE246.out) | exact HB.out)⟩⟩
          ·rw [if_neg c25] at H
           exact absurd H (by simp)
         ·rw [if_neg c24] at H
          have c24b0 : decide (x4_3 < (l0_9.length : Int)) = false := decide_eq_false c24
          clear c24
          have H' := Aside0.mk H
          clear H
          obtain ⟨hcz31_0, hcz31_1, hcz31_2, hcz31_3, hcz31_4, hcz31_5, hcz31_6, hcz31_7, hcz31_8, hcz31_9, hfz31_0, hfz31_1, hfz31_2, hfz31_3, hfz31_4, hfz31_5, hfz31_6, hfz31_7, hfz31_8, hfz31_9⟩ := cf10 BK246.out
          go_wp2
          go_loopg [5] k3 (fun kq v5 w' => ∃ (x5_4 : Int), v5 = .int .i64 x5_4 ∧ Aside0 (quarrelref20_Ok.l2 kq x5_4 a0_0 a0_1 a0_2 a0_3 a0_4 a0_5 l0_6 l0_7 l0_8 l0_9 = some r) ∧ Aside0 (kq ≤ k3) ∧ Aside0 (w'.heap[gb246]? = some (.cells #[.int .i64 a0_0, .int .i64 a0_1, .int .i64 a0_2, .int .i64 a0_3, .int .i64 a0_4, .int .i64 a0_5, (.slice A0_6 l0_6.length c0_6), (.slice A0_7 l0_7.length c0_7), (.slice A0_8 l0_8.length c0_8), (.slice A0_9 l0_9.length c0_9)] 34 (0, 0))) ∧ Aside0 (Below w.heap.size w w'))
          case atStart => exact ⟨(0), (by first | rfl | (simp; done) | (simp [*]; done)), H', ⟨Nat.le_refl _⟩, ⟨by (with_reducible repeat (first | refine blk_drewN ?_ _ | refine blk_drew ?_ | refine blk_alloc ?_ _)); exact BK246.out⟩, ⟨by repeat (first | (with_reducible first | exact HB.out | apply bwA | apply bwN | apply bw1 | refine bwS ?_ GE246.out) | exact HB.out)⟩⟩
          case round =>
           clear H'
           try clear c15
           try clear c16
           try clear c16b0
           try clear c24
           try clear c24b0
           try clear hcz23_0 hcz23_1 hcz23_2 hcz23_3 hcz23_4 hcz23_5 hcz23_6 hcz23_7 hcz23_8 hcz23_9
           try clear hcz31_0 hcz31_1 hcz31_2 hcz31_3 hcz31_4 hcz31_5 hcz31_6 hcz31_7 hcz31_8 hcz31_9
           try clear hfz23_0 hfz23_1 hfz23_2 hfz23_3 hfz23_4 hfz23_5 hfz23_6 hfz23_7 hfz23_8 hfz23_9
           try clear hfz31_0 hfz31_1 hfz31_2 hfz31_3 hfz31_4 hfz31_5 hfz31_6 hfz31_7 hfz31_8 hfz31_9
           obtain ⟨x5_4, rfl, HA, HK4, BK246, HB⟩ := hrel
           cases gk with
           | zero => exact absurd HA.out (by simp [quarrelref20_Ok.l2])
           | succ k4 =>
            have H := HA.out
            clear HA
            simp only [quarrelref20_Ok.l2] at H
            by_cases c32 : x5_4 < (l0_8.length : Int)
            ·rw [if_pos c32] at H
             have c32b0 : decide (x5_4 < (l0_8.length : Int)) = true := decide_eq_true c32
             clear c32
             by_cases c33 : 0 ≤ x5_4
             ·rw [if_pos c33] at H
              have c33b0 : decide (0 ≤ x5_4) = true := decide_eq_true c33
              clear c33
              by_cases c34 : ((rd_L7 l0_8 x5_4).length : Int) > 6
              ·rw [if_pos c34] at H
               have c34b0 : decide (6 < ((rd_L7 l0_8 x5_4).length : Int)) = true := decide_eq_true c34
               have c34b1 : decide (6 < (rd_L7 l0_8 x5_4).length) = true := decide_eq_true (by omega)
               clear c34
               obtain rfl := Option.some.inj H
               obtain ⟨hcz35_0, hcz35_1, hcz35_2, hcz35_3, hcz35_4, hcz35_5, hcz35_6, hcz35_7, hcz35_8, hcz35_9, hfz35_0, hfz35_1, hfz35_2, hfz35_3, hfz35_4, hfz35_5, hfz35_6, hfz35_7, hfz35_8, hfz35_9⟩ := cf10 BK246.out
               have p252 : 0 ≤ (x5_4 : Int) := of_decide_eq_true (by first | (with_reducible assumption) | assumption)
               have q252 : x5_4 < (l0_8.length : Int) := of_decide_eq_true (by first | (with_reducible assumption) | assumption)
               obtain ⟨ad252, A252_0, c252_0, e252, hx252_0, hl252_0, hi252_0⟩ := at_L7 HR0_8.out x5_4 p252 q252
               cases e252
               replace hx252_0 := (HB.out.cell (World.block_lt_of_cell? w _ hx252_0)).trans hx252_0
               have HR252_0 := Aside0.mk hi252_0
               have HC252_0 := Aside0.mk hl252_0
               clear hi252_0 hl252_0
               replace p252 := eq_true p252
               replace q252 := eq_true q252
               go_wp2
               go_ret
               exact ⟨by first | rfl | (simp [errW_none, errW_some] <;> rfl) | (simp [*, errW_none, errW_some] <;> rfl), by repeat (first | (with_reducible first | exact HB.out | apply bwA | apply bwN | apply bw1 | refine bwS ?_ GE246.out) | exact HB.out)⟩
              ·rw [if_neg c34] at H
               have c34b0 : decide (6 < ((rd_L7 l0_8 x5_4).length : Int)) = false := decide_eq_false c34
               have c34b1 : decide (6 < (rd_L7 l0_8 x5_4).length) = false := decide_eq_false (by omega)
               clear c34
               have H' := Aside0.mk H
               clear H
               obtain ⟨hcz36_0, hcz36_1, hcz36_2, hcz36_3, hcz36_4, hcz36_5, hcz36_6, hcz36_7, hcz36_8, hcz36_9, hfz36_0, hfz36_1, hfz36_2, hfz36_3, hfz36_4, hfz36_5, hfz36_6, hfz36_7, hfz36_8, hfz36_9⟩ := cf10 BK246.out
               have p252 : 0 ≤ (x5_4 : Int) := of_decide_eq_true (by first | (with_reducible assumption) | assumption)
               have q252 : x5_4 < (l0_8.length : Int) := of_decide_eq_true (by first | (with_reducible assumption) | assumption)
               obtain ⟨ad252, A252_0, c252_0, e252, hx252_0, hl252_0, hi252_0⟩ := at_L7 HR0_8.out x5_4 p252 q252
               cases e252
               replace hx252_0 := (HB.out.cell (World.block_lt_of_cell? w _ hx252_0)).trans hx252_0
               have HR252_0 := Aside0.mk hi252_0
               have HC252_0 := Aside0.mk hl252_0
               clear hi252_0 hl252_0
               replace p252 := eq_true p252
               replace q252 := eq_true q252
               go_wp2
               go_loopg [6] k4 (fun kq v6 w' => ∃ (x6_5 : Int), v6 = .int .i64 x6_5 ∧ Aside0 (quarrelref20_Ok.l3 kq x5_4 x6_5 a0_0 a0_1 a0_2 a0_3 a0_4 a0_5 l0_6 l0_7 l0_8 l0_9 = some r) ∧ Aside0 (kq ≤ k4) ∧ Aside0 (w'.heap[gb246]? = some (.cells #[.int .i64 a0_0, .int .i64 a0_1, .int .i64 a0_2, .int .i64 a0_3, .int .i64 a0_4, .int .i64 a0_5, (.slice A0_6 l0_6.length c0_6), (.slice A0_7 l0_7.length c0_7), (.slice (some ad252) l0_8.length c0_8), (.slice A0_9 l0_9.length c0_9)] 34 (0, 0))) ∧ Aside0 (Below w.heap.size w w'))
               case atStart => exact ⟨(0), (by first | rfl | (simp; done) | (simp [*]; done)), H', ⟨Nat.le_refl _⟩, ⟨by (with_reducible repeat (first | refine blk_drewN ?_ _ | refine blk_drew ?_ | refine blk_alloc ?_ _)); exact BK246.out⟩, ⟨by repeat (first | (with_reducible first | exact HB.out | apply bwA | apply bwN | apply bw1 | refine bwS ?_ GE246.out) | exact HB.out)⟩⟩
               case round =>
                clear H'
                try clear c15
                try clear c16
                try clear c16b0
                try clear c24
                try clear c24b0
                try clear c32
                try clear c32b0
                try clear c33
                try clear c33b0
                try clear c34
                try clear c34b0
                try clear c34b1
                try clear hcz23_0 hcz23_1 hcz23_2 hcz23_3 hcz23_4 hcz23_5 hcz23_6 hcz23_7 hcz23_8 hcz23_9
                try clear hcz31_0 hcz31_1 hcz31_2 hcz31_3 hcz31_4 hcz31_5 hcz31_6 hcz31_7 hcz31_8 hcz31_9
                try clear hcz36_0 hcz36_1 hcz36_2 hcz36_3 hcz36_4 hcz36_5 hcz36_6 hcz36_7 hcz36_8 hcz36_9
                try clear hfz23_0 hfz23_1 hfz23_2 hfz23_3 hfz23_4 hfz23_5 hfz23_6 hfz23_7 hfz23_8 hfz23_9
                try clear hfz31_0 hfz31_1 hfz31_2 hfz31_3 hfz31_4 hfz31_5 hfz31_6 hfz31_7 hfz31_8 hfz31_9
                try clear hfz36_0 hfz36_1 hfz36_2 hfz36_3 hfz36_4 hfz36_5 hfz36_6 hfz36_7 hfz36_8 hfz36_9
                try clear hx252_0
                try clear p252
                try clear q252
                obtain ⟨x6_5, rfl, HA, HK5, BK246, HB⟩ := hrel
                cases gk with
                | zero => exact absurd HA.out (by simp [quarrelref20_Ok.l3])
                | succ k5 =>
                 have H := HA.out
                 clear HA
                 simp only [quarrelref20_Ok.l3] at H
                 by_cases c37 : 0 ≤ x5_4
                 ·rw [if_pos c37] at H
                  have c37b0 : decide (0 ≤ x5_4) = true := decide_eq_true c37
                  clear c37
                  by_cases c38 : x5_4 < (l0_8.length : Int)
                  ·rw [if_pos c38] at H
                   have c38b0 : decide (x5_4 < (l0_8.length : Int)) = true := decide_eq_true c38
                   clear c38
                   by_cases c39 : x6_5 < ((rd_L7 l0_8 x5_4).length : Int)
                   ·rw [if_pos c39] at H
                    have c39b0 : decide (x6_5 < ((rd_L7 l0_8 x5_4).length : Int)) = true := decide_eq_true c39
                    clear c39
                    by_cases c40 : 0 ≤ x6_5
                    ·rw [if_pos c40] at H
                     have c40b0 : decide (0 ≤ x6_5) = true := decide_eq_true c40
                     clear c40
                     replace H := Option.bind_eq_some_iff.mp H
                     obtain ⟨t256, A410, H⟩ := H
                     replace H : (if t256 = true then (quarrelref20_Ok.l3 k5 x5_4 (wrap64 (x6_5 + 1)) a0_0 a0_1 a0_2 a0_3 a0_4 a0_5 l0_6 l0_7 l0_8 l0_9) else (some false)) = some r := H
                     have A41 := Aside0.mk A410
                     clear A410
                     by_cases c42 : t256 = true
                     ·subst c42
                      have H1 : (quarrelref20_Ok.l3 k5 x5_4 (wrap64 (x6_5 + 1)) a0_0 a0_1 a0_2 a0_3 a0_4 a0_5 l0_6 l0_7 l0_8 l0_9) = some r := by rw [if_pos rfl] at H; exact H
                      clear H
                      have H := H1
                      clear H1
                      have H' := Aside0.mk H
                      clear H
                      obtain ⟨hcz43_0, hcz43_1, hcz43_2, hcz43_3, hcz43_4, hcz43_5, hcz43_6, hcz43_7, hcz43_8, hcz43_9, hfz43_0, hfz43_1, hfz43_2, hfz43_3, hfz43_4, hfz43_5, hfz43_6, hfz43_7, hfz43_8, hfz43_9⟩ := cf10 BK246.out
                      have p253 : 0 ≤ (x5_4 : Int) := of_decide_eq_true (by first | (with_reducible assumption) | assumption)
                      have q253 : x5_4 < (l0_8.length : Int) := of_decide_eq_true (by first | (with_reducible assumption) | assumption)
                      obtain ⟨ad253, A253_0, c253_0, e253, hx253_0, hl253_0, hi253_0⟩ := at_L7 HR0_8.out x5_4 p253 q253
                      obtain rfl : ad252 = ad253 := (by injection e253)
                      replace hx253_0 := (HB.out.cell (World.block_lt_of_cell? w _ hx253_0)).trans hx253_0
                      have HR253_0 := Aside0.mk hi253_0
                      have HC253_0 := Aside0.mk hl253_0
                      clear hi253_0 hl253_0
                      replace p253 := eq_true p253
                      replace q253 := eq_true q253
                      try go_wp2
                      have n0_ := Aside0.mk (blk_drew BK246.out)
                      have n1_ := Aside0.mk (below_drew1 HB.out)
                      clear BK246
                      clear HB
                      have BK246 := n0_
                      have HB := n1_
                      clear n0_ n1_
                      have p254 : 0 ≤ (x5_4 : Int) := of_decide_eq_true (by first | (with_reducible assumption) | assumption)
                      have q254 : x5_4 < (l0_8.length : Int) := of_decide_eq_true (by first | (with_reducible assumption) | assumption)
                      obtain ⟨ad254, A254_0, c254_0, e254, hx254_0, hl254_0, hi254_0⟩ := at_L7 HR0_8.out x5_4 p254 q254
                      have hw254_0 := hx254_0
                      obtain rfl : ad252 = ad254 := (by injection e254)
                      replace hx254_0 := (HB.out.cell (World.block_lt_of_cell? w _ hx254_0)).trans hx254_0
                      have HR254_0 := Aside0.mk hi254_0
                      have HC254_0 := Aside0.mk hl254_0
                      clear hi254_0 hl254_0
                      replace p254 := eq_true p254
                      replace q254 := eq_true q254
                      have p255 : 0 ≤ (x6_5 : Int) := of_decide_eq_true (by first | (with_reducible assumption) | assumption)
                      have q255 : x6_5 < ((rd_L7 l0_8 x5_4).length : Int) := of_decide_eq_true (by first | (with_reducible assumption) | assumption)
                      obtain ⟨ad255, A255_0, c255_0, e255, hx255_0, hl255_0, hi255_0⟩ := at_L6 HR254_0.out x6_5 p255 q255
                      have hw255_0 := hx255_0
                      cases e255
                      replace hx255_0 := (HB.out.cell (World.block_lt_of_cell? w _ hx255_0)).trans hx255_0
                      have HR255_0 := Aside0.mk hi255_0
                      have HC255_0 := Aside0.mk hl255_0
                      clear hi255_0 hl255_0
                      replace p255 := eq_true p255
                      replace q255 := eq_true q255
                      refine start_ (n := 13) (S := fun w' => w'.cell? ⟨gb246, 0, none⟩ = some (.int .i64 a0_0) ∧ w'.cell? ⟨gb246, 1, none⟩ = some (.int .i64 a0_1) ∧ w'.cell? ⟨gb246, 2, none⟩ = some (.int .i64 a0_2) ∧ w'.cell? ⟨gb246, 3, none⟩ = some (.int .i64 a0_3) ∧ w'.cell? ⟨gb246, 4, none⟩ = some (.int .i64 a0_4) ∧ w'.cell? ⟨gb246, 5, none⟩ = some (.int .i64 a0_5) ∧ w'.cell? ⟨gb246, 6, none⟩ = some (.slice A0_6 l0_6.length c0_6) ∧ w'.cell? ⟨gb246, 7, none⟩ = some (.slice A0_7 l0_7.length c0_7) ∧ w'.cell? ⟨gb246, 8, none⟩ = some (.slice (some ad252) l0_8.length c0_8) ∧ w'.cell? ⟨gb246, 9, none⟩ = some (.slice A0_9 l0_9.length c0_9) ∧ w'.cell? (ad252.add (x5_4).toNat) = some (.slice (some ad255) (rd_L7 l0_8 x5_4).length c254_0) ∧ w'.cell? (ad255.add (x6_5).toNat) = some (.slice A255_0 (rd_L6 (rd_L7 l0_8 x5_4) x6_5).length c255_0)) (ds := []) #[false, false, false, false, false, false, false, false, false, false, false, false, false] (by kernel_rfl) rfl rfl ⟨(blk_cell BK246.out 0).trans rfl, (blk_cell BK246.out 1).trans rfl, (blk_cell BK246.out 2).trans rfl, (blk_cell BK246.out 3).trans rfl, (blk_cell BK246.out 4).trans rfl, (blk_cell BK246.out 5).trans rfl, (blk_cell BK246.out 6).trans rfl, (blk_cell BK246.out 7).trans rfl, (blk_cell BK246.out 8).trans rfl, (blk_cell BK246.out 9).trans rfl, ((HB.out.cell (World.block_lt_of_cell? w _ hw254_0)).trans hw254_0), ((HB.out.cell (World.block_lt_of_cell? w _ hw255_0)).trans hw255_0)⟩ (fun hHeld => ?_); refine with_tabW quarrelref20_Ok.tab21 quarrelref20_Ok.bits21 (fun HT_ HW_ => ?_)
                      generalize wr.drew = w44 at BK246 HB HR254_0 HR255_0 hx254_0 hx255_0 hHeld ⊢
                      refine pure_ (i := 0) (N := some 94) (v := ?_) (a' := ?_) #[true, false, false, false, false, false, false, false, false, false, false, false, false] rfl rfl (any_of HT_.out (by kernel_rfl)) (fun _ _ _ h => h) (Or.inl ⟨by rfl, ?_⟩) ?_ ?_
                      rotate_left
                      ·intro w'
                       go_simp
                       with_reducible rfl
                      rotate_left
                      ·simp only [Act.put, List.setIfInBounds_toArray, List.set_cons_zero, List.set_cons_succ, i64_w, i32_w]
                       rfl
                      refine pure_ (i := 2) (N := some 96) (v := ?_) (a' := ?_) #[true, false, true, false, false, false, false, false, false, false, false, false, false] rfl rfl (any_of HT_.out (by kernel_rfl)) (fun _ _ _ h => h) (Or.inl ⟨by rfl, ?_⟩) ?_ ?_
                      rotate_left
                      ·intro w'
                       go_simp
                       with_reducible rfl
                      rotate_left
                      ·simp only [Act.put, List.setIfInBounds_toArray, List.set_cons_zero, List.set_cons_succ, i64_w, i32_w]
                       rfl
                      refine pure_ (i := 5) (N := some 99) (v := ?_) (a' := ?_) #[true, false, true, false, false, true, false, false, false, false, false, false, false] rfl rfl (any_of HT_.out (by kernel_rfl)) (fun _ _ _ h => h) (Or.inl ⟨by rfl, ?_⟩) ?_ ?_
                      rotate_left
                      ·intro w'
                       go_simp
                       with_reducible rfl
                      rotate_left
                      ·simp only [Act.put, List.setIfInBounds_toArray, List.set_cons_zero, List.set_cons_succ, i64_w, i32_w]
                       rfl
                      refine pure_ (i := 8) (N := some 102) (v := ?_) (a' := ?_) #[true, false, true, false, false, true, false, false, true, false, false, false, false] rfl rfl (any_of HT_.out (by kernel_rfl)) (fun _ _ _ h => h) (Or.inl ⟨by rfl, ?_⟩) ?_ ?_
                      rotate_left
                      ·intro w'
                       go_simp
                       with_reducible rfl
                      rotate_left
                      ·simp only [Act.put, List.setIfInBounds_toArray, List.set_cons_zero, List.set_cons_succ, i64_w, i32_w]
                       rfl
                      refine pure_ (i := 9) (N := some 103) (v := ?_) (a' := ?_) #[true, false, true, false, false, true, false, false, true, true, false, false, false] rfl rfl (any_of HT_.out (by kernel_rfl)) (fun _ _ _ h => h) (Or.inl ⟨by rfl, ?_⟩) ?_ ?_
                      rotate_left
                      ·intro w'
                       go_simp
                       with_reducible rfl
                      rotate_left
                      ·simp only [Act.put, List.setIfInBounds_toArray, List.set_cons_zero, List.set_cons_succ, i64_w, i32_w]
                       rfl
                      refine take_ (i := 1) (N := some 95) (v := ?_) (a' := ?_) #[true, true, true, false, false, true, false, false, true, true, false, false, false] rfl rfl (take_ofW HT_.out HW_.out (by kernel_rfl)) (fun _ _ _ h => h) (Or.inl ⟨by rfl, ?_⟩) hHeld ?_ ?_
                      rotate_left
                      ·rintro w' ⟨s0, s1, s2, s3, s4, s5, s6, s7, s8, s9, s10, s11⟩
                       go_simp
                       with_reducible rfl
                      rotate_left
                      ·simp only [Act.put, List.setIfInBounds_toArray, List.set_cons_zero, List.set_cons_succ, i64_w, i32_w]
                       rfl
                      refine pure_ (i := 3) (N := some 97) (v := ?_) (a' := ?_) #[true, true, true, true, false, true, false, false, true, true, false, false, false] rfl rfl (any_of HT_.out (by kernel_rfl)) (fun _ _ _ h => h) (Or.inl ⟨by rfl, ?_⟩) ?_ ?_
                      rotate_left
                      ·intro w'
                       go_simp
                       with_reducible rfl
                      rotate_left
                      ·simp only [Act.put, List.setIfInBounds_toArray, List.set_cons_zero, List.set_cons_succ, i64_w, i32_w]
                       rfl
                      refine take_ (i := 4) (N := some 98) (v := ?_) (a' := ?_) #[true, true, true, true, true, true, false, false, true, true, false, false, false] rfl rfl (take_ofW HT_.out HW_.out (by kernel_rfl)) (fun _ _ _ h => h) (Or.inl ⟨by rfl, ?_⟩) hHeld ?_ ?_
                      rotate_left
                      ·rintro w' ⟨s0, s1, s2, s3, s4, s5, s6, s7, s8, s9, s10, s11⟩
                       go_simp
                       with_reducible rfl
                      rotate_left
                      ·simp only [Act.put, List.setIfInBounds_toArray, List.set_cons_zero, List.set_cons_succ, i64_w, i32_w]
                       rfl
                      refine pure_ (i := 6) (N := some 100) (v := ?_) (a' := ?_) #[true, true, true, true, true, true, true, false, true, true, false, false, false] rfl rfl (any_of HT_.out (by kernel_rfl)) (fun _ _ _ h => h) (Or.inl ⟨by rfl, ?_⟩) ?_ ?_
                      rotate_left
                      ·intro w'
                       go_simp
                       with_reducible rfl
                      rotate_left
                      ·simp only [Act.put, List.setIfInBounds_toArray, List.set_cons_zero, List.set_cons_succ, i64_w, i32_w]
                       rfl
                      refine take_ (i := 7) (N := some 101) (v := ?_) (a' := ?_) #[true, true, true, true, true, true, true, true, true, true, false, false, false] rfl rfl (take_ofW HT_.out HW_.out (by kernel_rfl)) (fun _ _ _ h => h) (Or.inl ⟨by rfl, ?_⟩) hHeld ?_ ?_
                      rotate_left
                      ·rintro w' ⟨s0, s1, s2, s3, s4, s5, s6, s7, s8, s9, s10, s11⟩
                       go_simp
                       with_reducible rfl
                      rotate_left
                      ·simp only [Act.put, List.setIfInBounds_toArray, List.set_cons_zero, List.set_cons_succ, i64_w, i32_w]
                       rfl
                      refine take_ (i := 10) (N := some 104) (v := ?_) (a' := ?_) #[true, true, true, true, true, true, true, true, true, true, true, false, false] rfl rfl (take_ofW HT_.out HW_.out (by kernel_rfl)) (fun _ _ _ h => h) (Or.inl ⟨by rfl, ?_⟩) hHeld ?_ ?_
                      rotate_left
                      ·rintro w' ⟨s0, s1, s2, s3, s4, s5, s6, s7, s8, s9, s10, s11⟩
                       go_simp
                       with_reducible rfl
                      rotate_left
                      ·simp only [Act.put, List.setIfInBounds_toArray, List.set_cons_zero, List.set_cons_succ, i64_w, i32_w]
                       rfl
                      refine one_ (i := 11) (N := some 105) #[true, true, true, true, true, true, true, true, true, true, true, true, false] rfl rfl (one_of HT_.out (by kernel_rfl)) (by decide) (fun K hK => ?_)
                      refine goes_ Try.func32 (by kernel_rfl) rfl #[.slice A255_0 (rd_L6 (rd_L7 l0_8 x5_4) x6_5).length c255_0, .int .i64 a0_0] (by rfl) rfl rfl (by (try simp only [List.map_toArray, List.map_cons, List.map_nil]); first | done | rfl | (simp only [List.length_drop, List.length_take]; rfl)) ?_
                      with_reducible refine (quarrelref11_Right.calls k5 _ _ (rd_L6 (rd_L7 l0_8 x5_4) x6_5) a0_0 true _ ?side1 ?side2 A41.out).mono ?_
                      (case side1 => repeat (first | exact (Kd.C_below HR255_0.out HB.out) | (with_reducible refine Kd.C_alloc ?_ _) | (with_reducible refine Kd.C_drewN ?_ _) | (with_reducible refine Kd.C_drew ?_)))
                      (case side2 => exact HC255_0.out)
                      rintro e w45 ⟨rfl, hb⟩
                      refine ⟨_, rfl, ?_⟩
                      have n0_ := Aside0.mk (blk_below (g := gb246) (o := .cells #[.int .i64 a0_0, .int .i64 a0_1, .int .i64 a0_2, .int .i64 a0_3, .int .i64 a0_4, .int .i64 a0_5, .slice A0_6 l0_6.length c0_6, .slice A0_7 l0_7.length c0_7, .slice (some ad252) l0_8.length c0_8, .slice A0_9 l0_9.length c0_9] 34 (0, 0)) (by (with_reducible repeat (first | refine blk_drewN ?_ _ | refine blk_drew ?_ | refine blk_alloc ?_ _)); exact BK246.out) hb)
                      have n1_ := Aside0.mk (below_step (by repeat (first | (with_reducible first | exact HB.out | apply bwA | apply bwN | apply bw1 | refine bwS ?_ GE246.out) | exact HB.out)) hb)
                      clear BK246
                      clear HB
                      have BK246 := n0_
                      have HB := n1_
                      clear n0_ n1_
                      (try clear hb)
                      refine hK.out _ _ ⟨(blk_cell BK246.out 0).trans rfl, (blk_cell BK246.out 1).trans rfl, (blk_cell BK246.out 2).trans rfl, (blk_cell BK246.out 3).trans rfl, (blk_cell BK246.out 4).trans rfl, (blk_cell BK246.out 5).trans rfl, (blk_cell BK246.out 6).trans rfl, (blk_cell BK246.out 7).trans rfl, (blk_cell BK246.out 8).trans rfl, (blk_cell BK246.out 9).trans rfl, ((HB.out.cell (World.block_lt_of_cell? w _ hw254_0)).trans hw254_0), ((HB.out.cell (World.block_lt_of_cell? w _ hw255_0)).trans hw255_0)⟩ (fun hHeld => ?_)
                      clear hK K
                      refine norm_ (a' := ?_) ?_ ?_
                      rotate_left
                      ·show Act.put _ (some 105) _ = _
                       simp only [Act.put, List.setIfInBounds_toArray, List.set_cons_zero, List.set_cons_succ, i64_w, i32_w]
                       rfl
                      refine pure_ (i := 12) (N := some 106) (v := ?_) (a' := ?_) #[true, true, true, true, true, true, true, true, true, true, true, true, true] rfl rfl (any_of HT_.out (by kernel_rfl)) (fun _ _ _ h => h) (Or.inl ⟨by rfl, ?_⟩) ?_ ?_
                      rotate_left
                      ·intro w'
                       go_simp
                       with_reducible rfl
                      rotate_left
                      ·simp only [Act.put, List.setIfInBounds_toArray, List.set_cons_zero, List.set_cons_succ, i64_w, i32_w]
                       rfl
                      refine done_ (done_of HT_.out (by kernel_rfl)) ?_
                      try go_wp2
                      go_roundg k5
                      case measure => have := HJ1.out; have := HK2.out; have := HK3.out; have := HK4.out; have := HK5.out; omega
                      case rel => exact ⟨(wrap64 (x6_5 + 1)), (by first | rfl | (simp; done) | (simp [*]; done)), H', ⟨by have := HJ1.out; have := HK2.out; have := HK3.out; have := HK4.out; have := HK5.out; omega⟩, ⟨by (with_reducible repeat (first | refine blk_drewN ?_ _ | refine blk_drew ?_ | refine blk_alloc ?_ _)); exact BK246.out⟩, ⟨by repeat (first | (with_reducible first | exact HB.out | apply bwA | apply bwN | apply bw1 | refine bwS ?_ GE246.out) | exact HB.out)⟩⟩
                     ·replace c42 := Bool.eq_false_iff.mpr c42
                      subst c42
                      have H1 : (some false) = some r := by rw [if_neg (show ¬ (false = true) by decide)] at H; exact H
                      clear H
                      have H := H1
                      clear H1
                      obtain rfl := Option.some.inj H
                      obtain ⟨hcz46_0, hcz46_1, hcz46_2, hcz46_3, hcz46_4, hcz46_5, hcz46_6, hcz46_7, hcz46_8, hcz46_9, hfz46_0, hfz46_1, hfz46_2, hfz46_3, hfz46_4, hfz46_5, hfz46_6, hfz46_7, hfz46_8, hfz46_9⟩ := cf10 BK246.out
                      have p253 : 0 ≤ (x5_4 : Int) := of_decide_eq_true (by first | (with_reducible assumption) | assumption)
                      have q253 : x5_4 < (l0_8.length : Int) := of_decide_eq_true (by first | (with_reducible assumption) | assumption)
                      obtain ⟨ad253, A253_0, c253_0, e253, hx253_0, hl253_0, hi253_0⟩ := at_L7 HR0_8.out x5_4 p253 q253
                      obtain rfl : ad252 = ad253 := (by injection e253)
                      replace hx253_0 := (HB.out.cell (World.block_lt_of_cell? w _ hx253_0)).trans hx253_0
                      have HR253_0 := Aside0.mk hi253_0
                      have HC253_0 := Aside0.mk hl253_0
                      clear hi253_0 hl253_0
                      replace p253 := eq_true p253
                      replace q253 := eq_true q253
                      try go_wp2
                      have n0_ := Aside0.mk (blk_drew BK246.out)
                      have n1_ := Aside0.mk (below_drew1 HB.out)
                      clear BK246
                      clear HB
                      have BK246 := n0_
                      have HB := n1_
                      clear n0_ n1_
                      have p254 : 0 ≤ (x5_4 : Int) := of_decide_eq_true (by first | (with_reducible assumption) | assumption)
                      have q254 : x5_4 < (l0_8.length : Int) := of_decide_eq_true (by first | (with_reducible assumption) | assumption)
                      obtain ⟨ad254, A254_0, c254_0, e254, hx254_0, hl254_0, hi254_0⟩ := at_L7 HR0_8.out x5_4 p254 q254
                      have hw254_0 := hx254_0
                      obtain rfl : ad252 = ad254 := (by injection e254)
                      replace hx254_0 := (HB.out.cell (World.block_lt_of_cell? w _ hx254_0)).trans hx254_0
                      have HR254_0 := Aside0.mk hi254_0
                      have HC254_0 := Aside0.mk hl254_0
                      clear hi254_0 hl254_0
                      replace p254 := eq_true p254
                      replace q254 := eq_true q254
                      have p255 : 0 ≤ (x6_5 : Int) := of_decide_eq_true (by first | (with_reducible assumption) | assumption)
                      have q255 : x6_5 < ((rd_L7 l0_8 x5_4).length : Int) := of_decide_eq_true (by first | (with_reducible assumption) | assumption)
                      obtain ⟨ad255, A255_0, c255_0, e255, hx255_0, hl255_0, hi255_0⟩ := at_L6 HR254_0.out x6_5 p255 q255
                      have hw255_0 := hx255_0
                      cases e255
                      replace hx255_0 := (HB.out.cell (World.block_lt_of_cell? w _ hx255_0)).trans hx255_0
                      have HR255_0 := Aside0.mk hi255_0
                      have HC255_0 := Aside0.mk hl255_0
                      clear hi255_0 hl255_0
                      replace p255 := eq_true p255
                      replace q255 := eq_true q255
                      refine start_ (n := 13) (S := fun w' => w'.cell? ⟨gb246, 0, none⟩ = some (.int .i64 a0_0) ∧ w'.cell? ⟨gb246, 1, none⟩ = some (.int .i64 a0_1) ∧ w'.cell? ⟨gb246, 2, none⟩ = some (.int .i64 a0_2) ∧ w'.cell? ⟨gb246, 3, none⟩ = some (.int .i64 a0_3) ∧ w'.cell? ⟨gb246, 4, none⟩ = some (.int .i64 a0_4) ∧ w'.cell? ⟨gb246, 5, none⟩ = some (.int .i64 a0_5) ∧ w'.cell? ⟨gb246, 6, none⟩ = some (.slice A0_6 l0_6.length c0_6) ∧ w'.cell? ⟨gb246, 7, none⟩ = some (.slice A0_7 l0_7.length c0_7) ∧ w'.cell? ⟨gb246, 8, none⟩ = some (.slice (some ad252) l0_8.length c0_8) ∧ w'.cell? ⟨gb246, 9, none⟩ = some (.slice A0_9 l0_9.length c0_9) ∧ w'.cell? (ad252.add (x5_4).toNat) = some (.slice (some ad255) (rd_L7 l0_8 x5_4).length c254_0) ∧ w'.cell? (ad255.add (x6_5).toNat) = some (.slice A255_0 (rd_L6 (rd_L7 l0_8 x5_4) x6_5).length c255_0)) (ds := []) #[false, false, false, false, false, false, false, false, false, false, false, false, false] (by kernel_rfl) rfl rfl ⟨(blk_cell BK246.out 0).trans rfl, (blk_cell BK246.out 1).trans rfl, (blk_cell BK246.out 2).trans rfl, (blk_cell BK246.out 3).trans rfl, (blk_cell BK246.out 4).trans rfl, (blk_cell BK246.out 5).trans rfl, (blk_cell BK246.out 6).trans rfl, (blk_cell BK246.out 7).trans rfl, (blk_cell BK246.out 8).trans rfl, (blk_cell BK246.out 9).trans rfl, ((HB.out.cell (World.block_lt_of_cell? w _ hw254_0)).trans hw254_0), ((HB.out.cell (World.block_lt_of_cell? w _ hw255_0)).trans hw255_0)⟩ (fun hHeld => ?_); refine with_tabW quarrelref20_Ok.tab21 quarrelref20_Ok.bits21 (fun HT_ HW_ => ?_)
                      generalize wr.drew = w47 at BK246 HB HR254_0 HR255_0 hx254_0 hx255_0 hHeld ⊢
                      refine pure_ (i := 0) (N := some 94) (v := ?_) (a' := ?_) #[true, false, false, false, false, false, false, false, false, false, false, false, false] rfl rfl (any_of HT_.out (by kernel_rfl)) (fun _ _ _ h => h) (Or.inl ⟨by rfl, ?_⟩) ?_ ?_
                      rotate_left
                      ·intro w'
                       go_simp
                       with_reducible rfl
                      rotate_left
                      ·simp only [Act.put, List.setIfInBounds_toArray, List.set_cons_zero, List.set_cons_succ, i64_w, i32_w]
                       rfl
                      refine pure_ (i := 2) (N := some 96) (v := ?_) (a' := ?_) #[true, false, true, false, false, false, false, false, false, false, false, false, false] rfl rfl (any_of HT_.out (by kernel_rfl)) (fun _ _ _ h => h) (Or.inl ⟨by rfl, ?_⟩) ?_ ?_
                      rotate_left
                      ·intro w'
                       go_simp
                       with_reducible rfl
                      rotate_left
                      ·simp only [Act.put, List.setIfInBounds_toArray, List.set_cons_zero, List.set_cons_succ, i64_w, i32_w]
                       rfl
                      refine pure_ (i := 5) (N := some 99) (v := ?_) (a' := ?_) #[true, false, true, false, false, true, false, false, false, false, false, false, false] rfl rfl (any_of HT_.out (by kernel_rfl)) (fun _ _ _ h => h) (Or.inl ⟨by rfl, ?_⟩) ?_ ?_
                      rotate_left
                      ·intro w'
                       go_simp
                       with_reducible rfl
                      rotate_left
                      ·simp only [Act.put, List.setIfInBounds_toArray, List.set_cons_zero, List.set_cons_succ, i64_w, i32_w]
                       rfl
                      refine pure_ (i := 8) (N := some 102) (v := ?_) (a' := ?_) #[true, false, true, false, false, true, false, false, true, false, false, false, false] rfl rfl (any_of HT_.out (by kernel_rfl)) (fun _ _ _ h => h) (Or.inl ⟨by rfl, ?_⟩) ?_ ?_
                      rotate_left
                      ·intro w'
                       go_simp
                       with_reducible rfl
                      rotate_left
                      ·simp only [Act.put, List.setIfInBounds_toArray, List.set_cons_zero, List.set_cons_succ, i64_w, i32_w]
                       rfl
                      refine pure_ (i := 9) (N := some 103) (v := ?_) (a' := ?_) #[true, false, true, false, false, true, false, false, true, true, false, false, false] rfl rfl (any_of HT_.out (by kernel_rfl)) (fun _ _ _ h => h) (Or.inl ⟨by rfl, ?_⟩) ?_ ?_
                      rotate_left
                      ·intro w'
                       go_simp
                       with_reducible rfl
                      rotate_left
                      ·simp only [Act.put, List.setIfInBounds_toArray, List.set_cons_zero, List.set_cons_succ, i64_w, i32_w]
                       rfl
                      refine take_ (i := 1) (N := some 95) (v := ?_) (a' := ?_) #[true, true, true, false, false, true, false, false, true, true, false, false, false] rfl rfl (take_ofW HT_.out HW_.out (by kernel_rfl)) (fun _ _ _ h => h) (Or.inl ⟨by rfl, ?_⟩) hHeld ?_ ?_
                      rotate_left
                      ·rintro w' ⟨s0, s1, s2, s3, s4, s5, s6, s7, s8, s9, s10, s11⟩
                       go_simp
                       with_reducible rfl
                      rotate_left
                      ·simp only [Act.put, List.setIfInBounds_toArray, List.set_cons_zero, List.set_cons_succ, i64_w, i32_w]
                       rfl
                      refine pure_ (i := 3) (N := some 97) (v := ?_) (a' := ?_) #[true, true, true, true, false, true, false, false, true, true, false, false, false] rfl rfl (any_of HT_.out (by kernel_rfl)) (fun _ _ _ h => h) (Or.inl ⟨by rfl, ?_⟩) ?_ ?_
                      rotate_left
                      ·intro w'
                       go_simp
                       with_reducible rfl
                      rotate_left
                      ·simp only [Act.put, List.setIfInBounds_toArray, List.set_cons_zero, List.set_cons_succ, i64_w, i32_w]
                       rfl
                      refine take_ (i := 4) (N := some 98) (v := ?_) (a' := ?_) #[true, true, true, true, true, true, false, false, true, true, false, false, false] rfl rfl (take_ofW HT_.out HW_.out (by kernel_rfl)) (fun _ _ _ h => h) (Or.inl ⟨by rfl, ?_⟩) hHeld ?_ ?_
                      rotate_left
                      ·rintro w' ⟨s0, s1, s2, s3, s4, s5, s6, s7, s8, s9, s10, s11⟩
                       go_simp
                       with_reducible rfl
                      rotate_left
                      ·simp only [Act.put, List.setIfInBounds_toArray, List.set_cons_zero, List.set_cons_succ, i64_w, i32_w]
                       rfl
                      refine pure_ (i := 6) (N := some 100) (v := ?_) (a' := ?_) #[true, true, true, true, true, true, true, false, true, true, false, false, false] rfl rfl (any_of HT_.out (by kernel_rfl)) (fun _ _ _ h => h) (Or.inl ⟨by rfl, ?_⟩) ?_ ?_
                      rotate_left
                      ·intro w'
                       go_simp
                       with_reducible rfl
                      rotate_left
                      ·simp only [Act.put, List.setIfInBounds_toArray, List.set_cons_zero, List.set_cons_succ, i64_w, i32_w]
                       rfl
                      refine take_ (i := 7) (N := some 101) (v := ?_) (a' := ?_) #[true, true, true, true, true, true, true, true, true, true, false, false, false] rfl rfl (take_ofW HT_.out HW_.out (by kernel_rfl)) (fun _ _ _ h => h) (Or.inl ⟨by rfl, ?_⟩) hHeld ?_ ?_
                      rotate_left
                      ·rintro w' ⟨s0, s1, s2, s3, s4, s5, s6, s7, s8, s9, s10, s11⟩
                       go_simp
                       with_reducible rfl
                      rotate_left
                      ·simp only [Act.put, List.setIfInBounds_toArray, List.set_cons_zero, List.set_cons_succ, i64_w, i32_w]
                       rfl
                      refine take_ (i := 10) (N := some 104) (v := ?_) (a' := ?_) #[true, true, true, true, true, true, true, true, true, true, true, false, false] rfl rfl (take_ofW HT_.out HW_.out (by kernel_rfl)) (fun _ _ _ h => h) (Or.inl ⟨by rfl, ?_⟩) hHeld ?_ ?_
                      rotate_left
                      ·rintro w' ⟨s0, s1, s2, s3, s4, s5, s6, s7, s8, s9, s10, s11⟩
                       go_simp
                       with_reducible rfl
                      rotate_left
                      ·simp only [Act.put, List.setIfInBounds_toArray, List.set_cons_zero, List.set_cons_succ, i64_w, i32_w]
                       rfl
                      refine one_ (i := 11) (N := some 105) #[true, true, true, true, true, true, true, true, true, true, true, true, false] rfl rfl (one_of HT_.out (by kernel_rfl)) (by decide) (fun K hK => ?_)
                      refine goes_ Try.func32 (by kernel_rfl) rfl #[.slice A255_0 (rd_L6 (rd_L7 l0_8 x5_4) x6_5).length c255_0, .int .i64 a0_0] (by rfl) rfl rfl (by (try simp only [List.map_toArray, List.map_cons, List.map_nil]); first | done | rfl | (simp only [List.length_drop, List.length_take]; rfl)) ?_
                      with_reducible refine (quarrelref11_Right.calls k5 _ _ (rd_L6 (rd_L7 l0_8 x5_4) x6_5) a0_0 false _ ?side1 ?side2 A41.out).mono ?_
                      (case side1 => repeat (first | exact (Kd.C_below HR255_0.out HB.out) | (with_reducible refine Kd.C_alloc ?_ _) | (with_reducible refine Kd.C_drewN ?_ _) | (with_reducible refine Kd.C_drew ?_)))
                      (case side2 => exact HC255_0.out)
                      rintro e w48 ⟨rfl, hb⟩
                      refine ⟨_, rfl, ?_⟩
                      have n0_ := Aside0.mk (blk_below (g := gb246) (o := .cells #[.int .i64 a0_0, .int .i64 a0_1, .int .i64 a0_2, .int .i64 a0_3, .int .i64 a0_4, .int .i64 a0_5, .slice A0_6 l0_6.length c0_6, .slice A0_7 l0_7.length c0_7, .slice (some ad252) l0_8.length c0_8, .slice A0_9 l0_9.length c0_9] 34 (0, 0)) (by (with_reducible repeat (first | refine blk_drewN ?_ _ | refine blk_drew ?_ | refine blk_alloc ?_ _)); exact BK246.out) hb)
                      have n1_ := Aside0.mk (below_step (by repeat (first | (with_reducible first | exact HB.out | apply bwA | apply bwN | apply bw1 | refine bwS ?_ GE246.out) | exact HB.out)) hb)
                      clear BK246
                      clear HB
                      have BK246 := n0_
                      have HB := n1_
                      clear n0_ n1_
                      (try clear hb)
                      refine hK.out _ _ ⟨(blk_cell BK246.out 0).trans rfl, (blk_cell BK246.out 1).trans rfl, (blk_cell BK246.out 2).trans rfl, (blk_cell BK246.out 3).trans rfl, (blk_cell BK246.out 4).trans rfl, (blk_cell BK246.out 5).trans rfl, (blk_cell BK246.out 6).trans rfl, (blk_cell BK246.out 7).trans rfl, (blk_cell BK246.out 8).trans rfl, (blk_cell BK246.out 9).trans rfl, ((HB.out.cell (World.block_lt_of_cell? w _ hw254_0)).trans hw254_0), ((HB.out.cell (World.block_lt_of_cell? w _ hw255_0)).trans hw255_0)⟩ (fun hHeld => ?_)
                      clear hK K
                      refine norm_ (a' := ?_) ?_ ?_
                      rotate_left
                      ·show Act.put _ (some 105) _ = _
                       simp only [Act.put, List.setIfInBounds_toArray, List.set_cons_zero, List.set_cons_succ, i64_w, i32_w]
                       rfl
                      refine pure_ (i := 12) (N := some 106) (v := ?_) (a' := ?_) #[true, true, true, true, true, true, true, true, true, true, true, true, true] rfl rfl (any_of HT_.out (by kernel_rfl)) (fun _ _ _ h => h) (Or.inl ⟨by rfl, ?_⟩) ?_ ?_
                      rotate_left
                      ·intro w'
                       go_simp
                       with_reducible rfl
                      rotate_left
                      ·simp only [Act.put, List.setIfInBounds_toArray, List.set_cons_zero, List.set_cons_succ, i64_w, i32_w]
                       rfl
                      refine done_ (done_of HT_.out (by kernel_rfl)) ?_
                      try go_wp2
                      go_ret
                      exact ⟨by first | rfl | (simp [errW_none, errW_some] <;> rfl) | (simp [*, errW_none, errW_some] <;> rfl), by repeat (first | (with_reducible first | exact HB.out | apply bwA | apply bwN | apply bw1 | refine bwS ?_ GE246.out) | exact HB.out)⟩
                    ·rw [if_neg c40] at H
                     exact absurd H (by simp)
                   ·rw [if_neg c39] at H
                    have c39b0 : decide (x6_5 < ((rd_L7 l0_8 x5_4).length : Int)) = false := decide_eq_false c39
                    clear c39
                    have H' := Aside0.mk H
                    clear H
                    obtain ⟨hcz49_0, hcz49_1, hcz49_2, hcz49_3, hcz49_4, hcz49_5, hcz49_6, hcz49_7, hcz49_8, hcz49_9, hfz49_0, hfz49_1, hfz49_2, hfz49_3, hfz49_4, hfz49_5, hfz49_6, hfz49_7, hfz49_8, hfz49_9⟩ := cf10 BK246.out
                    have p253 : 0 ≤ (x5_4 : Int) := of_decide_eq_true (by first | (with_reducible assumption) | assumption)
                    have q253 : x5_4 < (l0_8.length : Int) := of_decide_eq_true (by first | (with_reducible assumption) | assumption)
                    obtain ⟨ad253, A253_0, c253_0, e253, hx253_0, hl253_0, hi253_0⟩ := at_L7 HR0_8.out x5_4 p253 q253
                    obtain rfl : ad252 = ad253 := (by injection e253)
                    replace hx253_0 := (HB.out.cell (World.block_lt_of_cell? w _ hx253_0)).trans hx253_0
                    have HR253_0 := Aside0.mk hi253_0
                    have HC253_0 := Aside0.mk hl253_0
                    clear hi253_0 hl253_0
                    replace p253 := eq_true p253
                    replace q253 := eq_true q253
                    go_wp2
                    go_roundg k5
                    case measure => have := HJ1.out; have := HK2.out; have := HK3.out; have := HK4.out; have := HK5.out; omega
                    case rel => exact ⟨(wrap64 (x5_4 + 1)), (by first | rfl | (simp; done) | (simp [*]; done)), H', ⟨by have := HJ1.out; have := HK2.out; have := HK3.out; have := HK4.out; have := HK5.out; omega⟩, ⟨by (with_reducible repeat (first | refine blk_drewN ?_ _ | refine blk_drew ?_ | refine blk_alloc ?_ _)); exact BK246.out⟩, ⟨by repeat (first | (with_reducible first | exact HB.out | apply bwA | apply bwN | apply bw1 | refine bwS ?_ GE246.out) | exact HB.out)⟩⟩
                  ·rw [if_neg c38] at H
                   exact absurd H (by simp)
                 ·rw [if_neg c37] at H
                  exact absurd H (by simp)
             ·rw [if_neg c33] at H
              exact absurd H (by simp)
            ·rw [if_neg c32] at H
             have c32b0 : decide (x5_4 < (l0_8.length : Int)) = false := decide_eq_false c32
             clear c32
             obtain rfl := Option.some.inj H
             obtain ⟨hcz50_0, hcz50_1, hcz50_2, hcz50_3, hcz50_4, hcz50_5, hcz50_6, hcz50_7, hcz50_8, hcz50_9, hfz50_0, hfz50_1, hfz50_2, hfz50_3, hfz50_4, hfz50_5, hfz50_6, hfz50_7, hfz50_8, hfz50_9⟩ := cf10 BK246.out
             go_wp2
             go_ret
             exact ⟨by first | rfl | (simp [errW_none, errW_some] <;> rfl) | (simp [*, errW_none, errW_some] <;> rfl), by repeat (first | (with_reducible first | exact HB.out | apply bwA | apply bwN | apply bw1 | refine bwS ?_ GE246.out) | exact HB.out)⟩
end Go.Proofs.Ythfkgnkojhocbaa.S
end
section
namespace Go.Proofs.Ythfkgnkojhocbaa.S
open Go Go.RowKit Go.Proofs.YthfkgnkojhocbaaW.PrintWords Go.Proofs.YthfkgnkojhocbaaW.PrintLast
set_option linter.unusedVariables false
set_option linter.unusedSimpArgs false
/-- The place of the first that may not be, or -1. -/
def idxN {α : Type} (p : α → Bool) (l : List α) : Int := match l.findIdx? (fun o => !(p o)) with | some i => (i : Int) | none => -1
theorem idxN_hit {α : Type} (p : α → Bool) (l : List α) (k : Nat) (hk : k < l.length) (h : p l[k] = false) (hb : ∀ j (hj : j < k), p (l[j]'(by omega)) = true) : idxN p l = k := by
  have : l.findIdx? (fun o => !(p o)) = some k := by
    rw [List.findIdx?_eq_some_iff_getElem]
    exact ⟨hk, by simp [h], fun j hj => by simp [hb j hj]⟩
  simp [idxN, this]
theorem idxN_miss {α : Type} (p : α → Bool) (l : List α) (hb : ∀ j (hj : j < l.length), p (l[j]'(by omega)) = true) : idxN p l = -1 := by
  have : l.findIdx? (fun o => !(p o)) = none := by
    rw [List.findIdx?_eq_none_iff]
    intro x hx
    obtain ⟨i, hi, rfl⟩ := List.getElem_of_mem hx
    simp [hb i hi]
  simp [idxN, this]
theorem idxN_all {α : Type} (p : α → Bool) (l : List α) : decide (0 ≤ idxN p l) = !(l.all p) := by
  unfold idxN
  split
  · rename_i i h
    rw [List.findIdx?_eq_some_iff_getElem] at h
    obtain ⟨hi, h1, _⟩ := h
    have : l.all p = false := by
      rw [List.all_eq_false]
      exact ⟨l[i], List.getElem_mem hi, by simpa using h1⟩
    simp [this]
  · rename_i h
    rw [List.findIdx?_eq_none_iff] at h
    have : l.all p = true := by
      rw [List.all_eq_true]
      intro x hx
      simpa using h x hx
    simp [this]
set_option maxHeartbeats 8000000 in
theorem in64.idx (p : Int → Bool) (B1 : Nat) (B2 : Nat) (A0 : Option Addr) (c0 : Nat) (l0 : List (Int)) (w : World) (hr0 : Kd.C (Kd.int .i64) w A0 l0.length l0) (hc : ∀ x ∈ l0, ∀ (W : World), Below w.heap.size w W → Calls Try.prog 48 #[.int .i64 x, .pointer (some ⟨B1, 0, none⟩), .pointer (some ⟨B2, 0, none⟩)] W fun e W' => e = .returned (.bool (!(p x))) ∧ Below W.heap.size W W') :
    Calls Try.prog 56 #[.slice A0 l0.length c0, .func (.func 48) #[] #[.pointer (some ⟨B1, 0, none⟩), .pointer (some ⟨B2, 0, none⟩)]] w fun e w' => e = .returned (.int .i64 (idxN p l0)) ∧ Below w.heap.size w w' := by
  have hmax : l0.length ≤ 9223372036854775807 := Kd.C_max hr0
  have HR := Aside0.mk hr0
  have HC := Aside0.mk hc
  clear hr0 hc
  go_enter Try.func56, Try.ntmps56
  go_wp2
  go_loopg [5, 8] l0.length (fun gg _ s8 wr => ∃ kk : Nat, kk ≤ l0.length ∧ l0.length - kk ≤ gg ∧ s8 = .int .i64 kk ∧ Aside0 (Below w.heap.size w wr) ∧ Aside0 (∀ j (hj : j < kk) (hl : j < l0.length), p l0[j] = true))
  case atStart => exact ⟨0, Nat.zero_le _, by omega, rfl, ⟨Below.refl _ w⟩, ⟨fun j hj => absurd hj (Nat.not_lt_zero _)⟩⟩
  case round =>
    obtain ⟨kk, hkk, hg, rfl, HB, A⟩ := hrel
    by_cases hlt : kk < l0.length
    · have hltz : (kk : Int) < (l0.length : Int) := by omega
      obtain ⟨ad, ea, h0⟩ := Kd.at_int HR.out (kk : Int) (by omega) (by omega)
      subst ea
      have hrd : rd l0 (kk : Int) = l0[kk] := by simp [rd, hlt]
      rw [hrd] at h0
      replace h0 := (HB.out.cell (World.block_lt_of_cell? w _ h0)).trans h0
      simp only [Int.toNat_natCast] at h0
      have hcall := HC.out l0[kk] (List.getElem_mem hlt) wr HB.out
      clear hrd
      generalize hx : l0[kk] = x at h0 hcall
      have X := Aside0.mk hx
      clear hx
      cases hq : p x with
      | true =>
        rw [hq] at hcall
        go_wp2_with (go_at_call 48; refine hcall.mono ?_; rintro e w' ⟨rfl, hb'⟩)
        go_roundg (l0.length - (kk + 1))
        case measure => omega
        case rel =>
          refine ⟨kk + 1, by omega, by omega, by go_num, ⟨below_step HB.out hb'⟩, ⟨fun j hj hl => ?_⟩⟩
          by_cases e : j = kk
          · subst e
            rw [X.out]; exact hq
          · exact A.out j (by omega) hl
      | false =>
        rw [hq] at hcall
        go_wp2_with (go_at_call 48; refine hcall.mono ?_; rintro e w' ⟨rfl, hb'⟩)
        go_ret
        refine ⟨?_, below_step HB.out hb'⟩
        rw [idxN_hit p l0 kk hlt (by rw [X.out]; exact hq) (fun j hj => A.out j hj (by omega))]; rfl
    · have hltz : ¬ (kk : Int) < (l0.length : Int) := by omega
      have : kk = l0.length := by omega
      subst this
      go_wp2
      go_ret
      refine ⟨?_, HB.out⟩
      rw [idxN_miss p l0 (fun j hj => A.out j hj hj)]; rfl
set_option maxHeartbeats 8000000 in
theorem in64.cont (p : Int → Bool) (B1 : Nat) (B2 : Nat) (A0 : Option Addr) (c0 : Nat) (l0 : List (Int)) (w : World) (hr0 : Kd.C (Kd.int .i64) w A0 l0.length l0) (hc : ∀ x ∈ l0, ∀ (W : World), Below w.heap.size w W → Calls Try.prog 48 #[.int .i64 x, .pointer (some ⟨B1, 0, none⟩), .pointer (some ⟨B2, 0, none⟩)] W fun e W' => e = .returned (.bool (!(p x))) ∧ Below W.heap.size W W') :
    Calls Try.prog 47 #[.slice A0 l0.length c0, .func (.func 48) #[] #[.pointer (some ⟨B1, 0, none⟩), .pointer (some ⟨B2, 0, none⟩)]] w fun e w' => e = .returned (.bool (!(l0.all p))) ∧ Below w.heap.size w w' := by
  have H := in64.idx p B1 B2 A0 c0 l0 w hr0 hc
  have E := Aside0.mk (idxN_all p l0)
  clear hr0 hc
  generalize idxN p l0 = r at H E
  go_enter Try.func47, Try.ntmps47
  go_wp2_with (go_at_call 56; refine H.mono ?_; rintro e w' ⟨rfl, hb'⟩)
  go_ret
  exact ⟨by rw [← E.out]; rfl, hb'⟩
set_option maxHeartbeats 8000000 in
theorem inT.idx (p : Int → Bool) (B1 : Nat) (B2 : Nat) (A0 : Option Addr) (c0 : Nat) (l0 : List (Int)) (w : World) (hr0 : Kd.C (Kd.int .i64) w A0 l0.length l0) (hc : ∀ x ∈ l0, ∀ (W : World), Below w.heap.size w W → Calls Try.prog 50 #[.int .i64 x, .pointer (some ⟨B1, 0, none⟩), .pointer (some ⟨B2, 0, none⟩)] W fun e W' => e = .returned (.bool (!(p x))) ∧ Below W.heap.size W W') :
    Calls Try.prog 57 #[.slice A0 l0.length c0, .func (.func 50) #[] #[.pointer (some ⟨B1, 0, none⟩), .pointer (some ⟨B2, 0, none⟩)]] w fun e w' => e = .returned (.int .i64 (idxN p l0)) ∧ Below w.heap.size w w' := by
  have hmax : l0.length ≤ 9223372036854775807 := Kd.C_max hr0
  have HR := Aside0.mk hr0
  have HC := Aside0.mk hc
  clear hr0 hc
  go_enter Try.func57, Try.ntmps57
  go_wp2
  go_loopg [5, 8] l0.length (fun gg _ s8 wr => ∃ kk : Nat, kk ≤ l0.length ∧ l0.length - kk ≤ gg ∧ s8 = .int .i64 kk ∧ Aside0 (Below w.heap.size w wr) ∧ Aside0 (∀ j (hj : j < kk) (hl : j < l0.length), p l0[j] = true))
  case atStart => exact ⟨0, Nat.zero_le _, by omega, rfl, ⟨Below.refl _ w⟩, ⟨fun j hj => absurd hj (Nat.not_lt_zero _)⟩⟩
  case round =>
    obtain ⟨kk, hkk, hg, rfl, HB, A⟩ := hrel
    by_cases hlt : kk < l0.length
    · have hltz : (kk : Int) < (l0.length : Int) := by omega
      obtain ⟨ad, ea, h0⟩ := Kd.at_int HR.out (kk : Int) (by omega) (by omega)
      subst ea
      have hrd : rd l0 (kk : Int) = l0[kk] := by simp [rd, hlt]
      rw [hrd] at h0
      replace h0 := (HB.out.cell (World.block_lt_of_cell? w _ h0)).trans h0
      simp only [Int.toNat_natCast] at h0
      have hcall := HC.out l0[kk] (List.getElem_mem hlt) wr HB.out
      clear hrd
      generalize hx : l0[kk] = x at h0 hcall
      have X := Aside0.mk hx
      clear hx
      cases hq : p x with
      | true =>
        rw [hq] at hcall
        go_wp2_with (go_at_call 50; refine hcall.mono ?_; rintro e w' ⟨rfl, hb'⟩)
        go_roundg (l0.length - (kk + 1))
        case measure => omega
        case rel =>
          refine ⟨kk + 1, by omega, by omega, by go_num, ⟨below_step HB.out hb'⟩, ⟨fun j hj hl => ?_⟩⟩
          by_cases e : j = kk
          · subst e
            rw [X.out]; exact hq
          · exact A.out j (by omega) hl
      | false =>
        rw [hq] at hcall
        go_wp2_with (go_at_call 50; refine hcall.mono ?_; rintro e w' ⟨rfl, hb'⟩)
        go_ret
        refine ⟨?_, below_step HB.out hb'⟩
        rw [idxN_hit p l0 kk hlt (by rw [X.out]; exact hq) (fun j hj => A.out j hj (by omega))]; rfl
    · have hltz : ¬ (kk : Int) < (l0.length : Int) := by omega
      have : kk = l0.length := by omega
      subst this
      go_wp2
      go_ret
      refine ⟨?_, HB.out⟩
      rw [idxN_miss p l0 (fun j hj => A.out j hj hj)]; rfl
set_option maxHeartbeats 8000000 in
theorem inT.cont (p : Int → Bool) (B1 : Nat) (B2 : Nat) (A0 : Option Addr) (c0 : Nat) (l0 : List (Int)) (w : World) (hr0 : Kd.C (Kd.int .i64) w A0 l0.length l0) (hc : ∀ x ∈ l0, ∀ (W : World), Below w.heap.size w W → Calls Try.prog 50 #[.int .i64 x, .pointer (some ⟨B1, 0, none⟩), .pointer (some ⟨B2, 0, none⟩)] W fun e W' => e = .returned (.bool (!(p x))) ∧ Below W.heap.size W W') :
    Calls Try.prog 49 #[.slice A0 l0.length c0, .func (.func 50) #[] #[.pointer (some ⟨B1, 0, none⟩), .pointer (some ⟨B2, 0, none⟩)]] w fun e w' => e = .returned (.bool (!(l0.all p))) ∧ Below w.heap.size w w' := by
  have H := inT.idx p B1 B2 A0 c0 l0 w hr0 hc
  have E := Aside0.mk (idxN_all p l0)
  clear hr0 hc
  generalize idxN p l0 = r at H E
  go_enter Try.func49, Try.ntmps49
  go_wp2_with (go_at_call 57; refine H.mono ?_; rintro e w' ⟨rfl, hb'⟩)
  go_ret
  exact ⟨by rw [← E.out]; rfl, hb'⟩
set_option maxHeartbeats 8000000 in
theorem inOps.idx (p : List S80 → Bool) (B1 : Nat) (A0 : Option Addr) (c0 : Nat) (l0 : List (List S80)) (w : World) (hr0 : Kd.C (Kd.slice 80 k80) w A0 l0.length l0) (hc : ∀ x ∈ l0, ∀ (A : Option Addr) (c : Nat) (W : World), Below w.heap.size w W → k80.C W A x.length x → x.length ≤ c → Calls Try.prog 53 #[.slice A x.length c, .pointer (some ⟨B1, 0, none⟩)] W fun e W' => e = .returned (.bool (!(p x))) ∧ Below W.heap.size W W') :
    Calls Try.prog 58 #[.slice A0 l0.length c0, .func (.func 53) #[] #[.pointer (some ⟨B1, 0, none⟩)]] w fun e w' => e = .returned (.int .i64 (idxN p l0)) ∧ Below w.heap.size w w' := by
  have hmax : l0.length ≤ 9223372036854775807 := Kd.C_max hr0
  have HR := Aside0.mk hr0
  have HC := Aside0.mk hc
  clear hr0 hc
  go_enter Try.func58, Try.ntmps58
  go_wp2
  go_loopg [5, 8] l0.length (fun gg _ s8 wr => ∃ kk : Nat, kk ≤ l0.length ∧ l0.length - kk ≤ gg ∧ s8 = .int .i64 kk ∧ Aside0 (Below w.heap.size w wr) ∧ Aside0 (∀ j (hj : j < kk) (hl : j < l0.length), p l0[j] = true))
  case atStart => exact ⟨0, Nat.zero_le _, by omega, rfl, ⟨Below.refl _ w⟩, ⟨fun j hj => absurd hj (Nat.not_lt_zero _)⟩⟩
  case round =>
    obtain ⟨kk, hkk, hg, rfl, HB, A⟩ := hrel
    by_cases hlt : kk < l0.length
    · have hltz : (kk : Int) < (l0.length : Int) := by omega
      obtain ⟨ad, c, ea, _, hK, hc0⟩ := Kd.C_get HR.out [] (kk : Int) (by omega) (by omega)
      have hq : ∀ j u, c[j]? = some u → w.cell? (ad.add ((kk : Int).toNat * 1 + j)) = some u := hc0
      obtain ⟨A1, c1, rfl, hl1, hC1⟩ := hK
      subst ea
      have h0 := hq 0 _ rfl
      rw [Nat.mul_one, Nat.add_zero] at h0
      have hrd : l0.getD (kk : Int).toNat [] = l0[kk] := by simp [hlt]
      rw [hrd] at h0 hl1 hC1
      clear hq hc0
      replace h0 := (HB.out.cell (World.block_lt_of_cell? w _ h0)).trans h0
      simp only [Int.toNat_natCast] at h0
      have hcall := HC.out l0[kk] (List.getElem_mem hlt) A1 c1 wr HB.out (Kd.C_below hC1 HB.out) hl1
      clear hrd hl1 hC1
      generalize hx : l0[kk] = x at h0 hcall
      have X := Aside0.mk hx
      clear hx
      cases hq : p x with
      | true =>
        rw [hq] at hcall
        go_wp2_with (go_at_call 53; refine hcall.mono ?_; rintro e w' ⟨rfl, hb'⟩)
        go_roundg (l0.length - (kk + 1))
        case measure => omega
        case rel =>
          refine ⟨kk + 1, by omega, by omega, by go_num, ⟨below_step HB.out hb'⟩, ⟨fun j hj hl => ?_⟩⟩
          by_cases e : j = kk
          · subst e
            rw [X.out]; exact hq
          · exact A.out j (by omega) hl
      | false =>
        rw [hq] at hcall
        go_wp2_with (go_at_call 53; refine hcall.mono ?_; rintro e w' ⟨rfl, hb'⟩)
        go_ret
        refine ⟨?_, below_step HB.out hb'⟩
        rw [idxN_hit p l0 kk hlt (by rw [X.out]; exact hq) (fun j hj => A.out j hj (by omega))]; rfl
    · have hltz : ¬ (kk : Int) < (l0.length : Int) := by omega
      have : kk = l0.length := by omega
      subst this
      go_wp2
      go_ret
      refine ⟨?_, HB.out⟩
      rw [idxN_miss p l0 (fun j hj => A.out j hj hj)]; rfl
set_option maxHeartbeats 8000000 in
theorem inOps.cont (p : List S80 → Bool) (B1 : Nat) (A0 : Option Addr) (c0 : Nat) (l0 : List (List S80)) (w : World) (hr0 : Kd.C (Kd.slice 80 k80) w A0 l0.length l0) (hc : ∀ x ∈ l0, ∀ (A : Option Addr) (c : Nat) (W : World), Below w.heap.size w W → k80.C W A x.length x → x.length ≤ c → Calls Try.prog 53 #[.slice A x.length c, .pointer (some ⟨B1, 0, none⟩)] W fun e W' => e = .returned (.bool (!(p x))) ∧ Below W.heap.size W W') :
    Calls Try.prog 52 #[.slice A0 l0.length c0, .func (.func 53) #[] #[.pointer (some ⟨B1, 0, none⟩)]] w fun e w' => e = .returned (.bool (!(l0.all p))) ∧ Below w.heap.size w w' := by
  have H := inOps.idx p B1 A0 c0 l0 w hr0 hc
  have E := Aside0.mk (idxN_all p l0)
  clear hr0 hc
  generalize idxN p l0 = r at H E
  go_enter Try.func52, Try.ntmps52
  go_wp2_with (go_at_call 58; refine H.mono ?_; rintro e w' ⟨rfl, hb'⟩)
  go_ret
  exact ⟨by rw [← E.out]; rfl, hb'⟩
set_option maxHeartbeats 8000000 in
theorem inTx.idx (p : List (List S80) → Bool) (B1 : Nat) (A0 : Option Addr) (c0 : Nat) (l0 : List (List (List S80))) (w : World) (hr0 : Kd.C (Kd.slice 61 (Kd.slice 80 k80)) w A0 l0.length l0) (hc : ∀ x ∈ l0, ∀ (A : Option Addr) (c : Nat) (W : World), Below w.heap.size w W → (Kd.slice 80 k80).C W A x.length x → x.length ≤ c → Calls Try.prog 38 #[.slice A x.length c, .pointer (some ⟨B1, 0, none⟩)] W fun e W' => e = .returned (.bool (!(p x))) ∧ Below W.heap.size W W') :
    Calls Try.prog 51 #[.slice A0 l0.length c0, .func (.func 38) #[] #[.pointer (some ⟨B1, 0, none⟩)]] w fun e w' => e = .returned (.int .i64 (idxN p l0)) ∧ Below w.heap.size w w' := by
  have hmax : l0.length ≤ 9223372036854775807 := Kd.C_max hr0
  have HR := Aside0.mk hr0
  have HC := Aside0.mk hc
  clear hr0 hc
  go_enter Try.func51, Try.ntmps51
  go_wp2
  go_loopg [5, 8] l0.length (fun gg _ s8 wr => ∃ kk : Nat, kk ≤ l0.length ∧ l0.length - kk ≤ gg ∧ s8 = .int .i64 kk ∧ Aside0 (Below w.heap.size w wr) ∧ Aside0 (∀ j (hj : j < kk) (hl : j < l0.length), p l0[j] = true))
  case atStart => exact ⟨0, Nat.zero_le _, by omega, rfl, ⟨Below.refl _ w⟩, ⟨fun j hj => absurd hj (Nat.not_lt_zero _)⟩⟩
  case round =>
    obtain ⟨kk, hkk, hg, rfl, HB, A⟩ := hrel
    by_cases hlt : kk < l0.length
    · have hltz : (kk : Int) < (l0.length : Int) := by omega
      obtain ⟨ad, c, ea, _, hK, hc0⟩ := Kd.C_get HR.out [] (kk : Int) (by omega) (by omega)
      have hq : ∀ j u, c[j]? = some u → w.cell? (ad.add ((kk : Int).toNat * 1 + j)) = some u := hc0
      obtain ⟨A1, c1, rfl, hl1, hC1⟩ := hK
      subst ea
      have h0 := hq 0 _ rfl
      rw [Nat.mul_one, Nat.add_zero] at h0
      have hrd : l0.getD (kk : Int).toNat [] = l0[kk] := by simp [hlt]
      rw [hrd] at h0 hl1 hC1
      clear hq hc0
      replace h0 := (HB.out.cell (World.block_lt_of_cell? w _ h0)).trans h0
      simp only [Int.toNat_natCast] at h0
      have hcall := HC.out l0[kk] (List.getElem_mem hlt) A1 c1 wr HB.out (Kd.C_below hC1 HB.out) hl1
      clear hrd hl1 hC1
      generalize hx : l0[kk] = x at h0 hcall
      have X := Aside0.mk hx
      clear hx
      cases hq : p x with
      | true =>
        rw [hq] at hcall
        go_wp2_with (go_at_call 38; refine hcall.mono ?_; rintro e w' ⟨rfl, hb'⟩)
        go_roundg (l0.length - (kk + 1))
        case measure => omega
        case rel =>
          refine ⟨kk + 1, by omega, by omega, by go_num, ⟨below_step HB.out hb'⟩, ⟨fun j hj hl => ?_⟩⟩
          by_cases e : j = kk
          · subst e
            rw [X.out]; exact hq
          · exact A.out j (by omega) hl
      | false =>
        rw [hq] at hcall
        go_wp2_with (go_at_call 38; refine hcall.mono ?_; rintro e w' ⟨rfl, hb'⟩)
        go_ret
        refine ⟨?_, below_step HB.out hb'⟩
        rw [idxN_hit p l0 kk hlt (by rw [X.out]; exact hq) (fun j hj => A.out j hj (by omega))]; rfl
    · have hltz : ¬ (kk : Int) < (l0.length : Int) := by omega
      have : kk = l0.length := by omega
      subst this
      go_wp2
      go_ret
      refine ⟨?_, HB.out⟩
      rw [idxN_miss p l0 (fun j hj => A.out j hj hj)]; rfl
set_option maxHeartbeats 8000000 in
theorem inTx.cont (p : List (List S80) → Bool) (B1 : Nat) (A0 : Option Addr) (c0 : Nat) (l0 : List (List (List S80))) (w : World) (hr0 : Kd.C (Kd.slice 61 (Kd.slice 80 k80)) w A0 l0.length l0) (hc : ∀ x ∈ l0, ∀ (A : Option Addr) (c : Nat) (W : World), Below w.heap.size w W → (Kd.slice 80 k80).C W A x.length x → x.length ≤ c → Calls Try.prog 38 #[.slice A x.length c, .pointer (some ⟨B1, 0, none⟩)] W fun e W' => e = .returned (.bool (!(p x))) ∧ Below W.heap.size W W') :
    Calls Try.prog 37 #[.slice A0 l0.length c0, .func (.func 38) #[] #[.pointer (some ⟨B1, 0, none⟩)]] w fun e w' => e = .returned (.bool (!(l0.all p))) ∧ Below w.heap.size w w' := by
  have H := inTx.idx p B1 A0 c0 l0 w hr0 hc
  have E := Aside0.mk (idxN_all p l0)
  clear hr0 hc
  generalize idxN p l0 = r at H E
  go_enter Try.func37, Try.ntmps37
  go_wp2_with (go_at_call 51; refine H.mono ?_; rintro e w' ⟨rfl, hb'⟩)
  go_ret
  exact ⟨by rw [← E.out]; rfl, hb'⟩
/-- Is a number from a least to a most one? -/
def small64.in (a b x : Int) : Bool := decide (a ≤ x) && decide (x ≤ b)
set_option maxHeartbeats 8000000 in
theorem small64.clo (a b x : Int) (B1 B2 : Nat) (w : World) (h1 : w.cell? ⟨B1, 0, none⟩ = some (.int .i64 a)) (h2 : w.cell? ⟨B2, 0, none⟩ = some (.int .i64 b)) :
    Calls Try.prog 48 #[.int .i64 x, .pointer (some ⟨B1, 0, none⟩), .pointer (some ⟨B2, 0, none⟩)] w fun e w' => e = .returned (.bool (!(small64.in a b x))) ∧ Below w.heap.size w w' := by
  have HB := Aside0.mk (Below.refl w.heap.size w)
  by_cases hx : x < a
  · have hxb : decide (x < a) = true := decide_eq_true hx
    have E : Aside0 (small64.in a b x = false) := ⟨by unfold small64.in; rw [decide_eq_false (by omega)]; rfl⟩
    rw [E.out]
    clear hx
    go_enter Try.func48, Try.ntmps48
    go_wp2
    go_ret
    exact ⟨by simp, HB.out⟩
  · have hxb : decide (x < a) = false := decide_eq_false hx
    by_cases hy : x > b
    · have hyb : decide (b < x) = true := decide_eq_true hy
      have E : Aside0 (small64.in a b x = false) := ⟨by unfold small64.in; rw [decide_eq_false (p := x ≤ b) (by omega), Bool.and_false]⟩
      rw [E.out]
      clear hx hy
      go_enter Try.func48, Try.ntmps48
      go_wp2
      go_ret
      exact ⟨by simp, HB.out⟩
    · have hyb : decide (b < x) = false := decide_eq_false (by omega)
      have E : Aside0 (small64.in a b x = true) := ⟨by unfold small64.in; rw [decide_eq_true (p := a ≤ x) (by omega), decide_eq_true (p := x ≤ b) (by omega)]; rfl⟩
      rw [E.out]
      clear hx hy
      go_enter Try.func48, Try.ntmps48
      go_wp2
      go_ret
      exact ⟨by simp, HB.out⟩
set_option maxHeartbeats 8000000 in
theorem small64.calls (a b : Int) (A0 : Option Addr) (c0 : Nat) (l0 : List Int) (w : World) (hr0 : Kd.C (Kd.int .i64) w A0 l0.length l0) :
    Calls Try.prog 35 #[.slice A0 l0.length c0, .int .i64 a, .int .i64 b] w fun e w' => e = .returned (.bool (l0.all (small64.in a b))) ∧ Below w.heap.size w w' := by
  have hb1 : Below w.heap.size w (w.alloc (.cells #[.int .i64 a] 2)) := (Below.refl _ w).alloc (Nat.le_refl _) _
  have hb2 : Below w.heap.size w ((w.alloc (.cells #[.int .i64 a] 2)).alloc (.cells #[.int .i64 b] 2)) := hb1.alloc (by simp) _
  have H := in64.cont (small64.in a b) w.heap.size (w.heap.size + 1) A0 c0 l0 ((w.alloc (.cells #[.int .i64 a] 2)).alloc (.cells #[.int .i64 b] 2)) (Kd.C_below hr0 hb2) (fun x _ W hW => small64.clo a b x w.heap.size (w.heap.size + 1) W ((hW.cell (by simp <;> omega)).trans (by simp)) ((hW.cell (by simp)).trans (by simp)))
  have HB := Aside0.mk hb2
  clear hr0 hb1 hb2
  generalize l0.all (small64.in a b) = r at H
  go_enter Try.func35, Try.ntmps35
  go_wp2_with (go_at_call 47; refine H.mono ?_; rintro e w' ⟨rfl, hb'⟩)
  go_ret
  exact ⟨by simp, HB.out.trans (hb'.mono HB.out.size)⟩
/-- Is a number from a least to a most one? -/
def smallT.in (a b x : Int) : Bool := decide (a ≤ x) && decide (x ≤ b)
set_option maxHeartbeats 8000000 in
theorem smallT.clo (a b x : Int) (B1 B2 : Nat) (w : World) (h1 : w.cell? ⟨B1, 0, none⟩ = some (.int .i64 a)) (h2 : w.cell? ⟨B2, 0, none⟩ = some (.int .i64 b)) :
    Calls Try.prog 50 #[.int .i64 x, .pointer (some ⟨B1, 0, none⟩), .pointer (some ⟨B2, 0, none⟩)] w fun e w' => e = .returned (.bool (!(smallT.in a b x))) ∧ Below w.heap.size w w' := by
  have HB := Aside0.mk (Below.refl w.heap.size w)
  by_cases hx : x < a
  · have hxb : decide (x < a) = true := decide_eq_true hx
    have E : Aside0 (smallT.in a b x = false) := ⟨by unfold smallT.in; rw [decide_eq_false (by omega)]; rfl⟩
    rw [E.out]
    clear hx
    go_enter Try.func50, Try.ntmps50
    go_wp2
    go_ret
    exact ⟨by simp, HB.out⟩
  · have hxb : decide (x < a) = false := decide_eq_false hx
    by_cases hy : x > b
    · have hyb : decide (b < x) = true := decide_eq_true hy
      have E : Aside0 (smallT.in a b x = false) := ⟨by unfold smallT.in; rw [decide_eq_false (p := x ≤ b) (by omega), Bool.and_false]⟩
      rw [E.out]
      clear hx hy
      go_enter Try.func50, Try.ntmps50
      go_wp2
      go_ret
      exact ⟨by simp, HB.out⟩
    · have hyb : decide (b < x) = false := decide_eq_false (by omega)
      have E : Aside0 (smallT.in a b x = true) := ⟨by unfold smallT.in; rw [decide_eq_true (p := a ≤ x) (by omega), decide_eq_true (p := x ≤ b) (by omega)]; rfl⟩
      rw [E.out]
      clear hx hy
      go_enter Try.func50, Try.ntmps50
      go_wp2
      go_ret
      exact ⟨by simp, HB.out⟩
set_option maxHeartbeats 8000000 in
theorem smallT.calls (a b : Int) (A0 : Option Addr) (c0 : Nat) (l0 : List Int) (w : World) (hr0 : Kd.C (Kd.int .i64) w A0 l0.length l0) :
    Calls Try.prog 36 #[.slice A0 l0.length c0, .int .i64 a, .int .i64 b] w fun e w' => e = .returned (.bool (l0.all (smallT.in a b))) ∧ Below w.heap.size w w' := by
  have hb1 : Below w.heap.size w (w.alloc (.cells #[.int .i64 a] 3)) := (Below.refl _ w).alloc (Nat.le_refl _) _
  have hb2 : Below w.heap.size w ((w.alloc (.cells #[.int .i64 a] 3)).alloc (.cells #[.int .i64 b] 3)) := hb1.alloc (by simp) _
  have H := inT.cont (smallT.in a b) w.heap.size (w.heap.size + 1) A0 c0 l0 ((w.alloc (.cells #[.int .i64 a] 3)).alloc (.cells #[.int .i64 b] 3)) (Kd.C_below hr0 hb2) (fun x _ W hW => smallT.clo a b x w.heap.size (w.heap.size + 1) W ((hW.cell (by simp <;> omega)).trans (by simp)) ((hW.cell (by simp)).trans (by simp)))
  have HB := Aside0.mk hb2
  clear hr0 hb1 hb2
  generalize l0.all (smallT.in a b) = r at H
  go_enter Try.func36, Try.ntmps36
  go_wp2_with (go_at_call 49; refine H.mono ?_; rintro e w' ⟨rfl, hb'⟩)
  go_ret
  exact ⟨by simp, HB.out.trans (hb'.mono HB.out.size)⟩
/-- May a thread's transactions be? -/
def rightB (n : Int) (l : List S80) : Bool := decide (1 ≤ l.length) && decide (l.length ≤ 8) && l.all (okB · n)
def txnsB (n : Int) (l : List (List S80)) : Bool := decide (l.length ≤ 6) && l.all (rightB n)
set_option maxHeartbeats 8000000 in
theorem txns.clo (n : Int) (B1 : Nat) (x : List S80) (A : Option Addr) (c : Nat) (w : World) (h1 : w.cell? ⟨B1, 0, none⟩ = some (.int .i64 n)) (hr : Kd.C k80 w A x.length x) (hc : x.length ≤ c) :
    Calls Try.prog 53 #[.slice A x.length c, .pointer (some ⟨B1, 0, none⟩)] w fun e w' => e = .returned (.bool (!(rightB n x))) ∧ Below w.heap.size w w' := by
  have H := lang_Right.calls A c x n (rightB n x) w hr hc rfl
  clear hr hc
  generalize rightB n x = r at H
  go_enter Try.func53, Try.ntmps53
  go_wp2_with (go_at_call 54; refine H.mono ?_; rintro e w' ⟨rfl, hb'⟩)
  go_ret
  exact ⟨rfl, hb'⟩
set_option maxHeartbeats 8000000 in
theorem txns.calls (n : Int) (A0 : Option Addr) (c0 : Nat) (l0 : List (List S80)) (w : World) (hr0 : Kd.C (Kd.slice 80 k80) w A0 l0.length l0) (hc0 : l0.length ≤ c0) :
    Calls Try.prog 39 #[.slice A0 l0.length c0, .int .i64 n] w fun e w' => e = .returned (.bool (txnsB n l0)) ∧ Below w.heap.size w w' := by
  have hb1 : Below w.heap.size w (w.alloc (.cells #[.int .i64 n] 3)) := (Below.refl _ w).alloc (Nat.le_refl _) _
  have H := inOps.cont (rightB n) w.heap.size A0 c0 l0 (w.alloc (.cells #[.int .i64 n] 3)) (Kd.C_below hr0 hb1) (fun x _ A c W hW hK hl => txns.clo n w.heap.size x A c W ((hW.cell (by simp)).trans (by simp)) hK hl)
  have HB := Aside0.mk hb1
  clear hr0 hb1
  by_cases h6 : l0.length ≤ 6
  · have e6 : decide ((l0.length : Int) ≤ 6) = true := decide_eq_true (by omega)
    have E : Aside0 (txnsB n l0 = l0.all (rightB n)) := ⟨by unfold txnsB; rw [decide_eq_true h6]; rfl⟩
    rw [E.out]
    clear h6
    generalize l0.all (rightB n) = r at H
    go_enter Try.func39, Try.ntmps39
    go_wp2_with (go_at_call 52; refine H.mono ?_; rintro e w' ⟨rfl, hb'⟩)
    go_ret
    exact ⟨by simp, HB.out.trans (hb'.mono HB.out.size)⟩
  · have e6 : decide ((l0.length : Int) ≤ 6) = false := decide_eq_false (by omega)
    have E : Aside0 (txnsB n l0 = false) := ⟨by unfold txnsB; rw [decide_eq_false h6]; rfl⟩
    rw [E.out]
    clear h6 H
    go_enter Try.func39, Try.ntmps39
    go_wp2
    go_ret
    exact ⟨by simp, HB.out⟩
set_option maxHeartbeats 8000000 in
theorem okC.clo (a0 a1 a2 a3 a4 a5 : Int) (B1 : Nat) (x : List (List S80)) (A : Option Addr) (c : Nat) (w : World) (h1 : w.cell? ⟨B1, 0, none⟩ = some (.int .i64 a0)) (hr : Kd.C (Kd.slice 80 k80) w A x.length x) (hc : x.length ≤ c) :
    Calls Try.prog 38 #[.slice A x.length c, .pointer (some ⟨B1, 0, none⟩)] w fun e w' => e = .returned (.bool (!(txnsB a0 x))) ∧ Below w.heap.size w w' := by
  have hu25 := Try.underlying25
  have H := txns.calls a0 A c x w hr hc
  clear hr hc
  generalize txnsB a0 x = r at H
  go_enter Try.func38, Try.ntmps38
  go_wp2_with (go_at_call 39; refine H.mono ?_; rintro e w' ⟨rfl, hb'⟩)
  go_ret
  exact ⟨rfl, hb'⟩
end Go.Proofs.Ythfkgnkojhocbaa.S
end
section
namespace Go.Proofs.Ythfkgnkojhocbaa.S
open Go Go.RowKit Go.Proofs.YthfkgnkojhocbaaW.PrintWords Go.Proofs.YthfkgnkojhocbaaW.PrintLast
set_option linter.unusedVariables false
set_option linter.unusedSimpArgs false
theorem new_blk1 (w : World) (o1 o2 : Obj) : ((w.alloc o1).alloc o2).heap[w.heap.size]? = some o1 := blk_alloc (blk_new w o1) o2
theorem new_blk2 (w : World) (o1 o2 : Obj) : ((w.alloc o1).alloc o2).heap[w.heap.size + 1]? = some o2 := by
  have h := blk_new (w.alloc o1) o2
  have e : (w.alloc o1).heap.size = w.heap.size + 1 := by simp
  rwa [e] at h
set_option maxHeartbeats 16000000 in
set_option maxRecDepth 100000 in
theorem okWalk (a0_0 a0_1 a0_2 a0_3 a0_4 a0_5 : Int) (A6 : Option Addr) (c6 : Nat) (l0_6 : List Int) (A7 : Option Addr) (c7 : Nat) (l0_7 : List Int) (A8 : Option Addr) (c8 : Nat) (l0_8 : List (List (List S80))) (A9 : Option Addr) (c9 : Nat) (l0_9 : List Int) (w : World) (b34 b35 b36 b37 : Bool)
    (H34 : ∀ W, Calls Try.prog 34 #[.agg #[.int .i64 a0_0, .int .i64 a0_1, .int .i64 a0_2, .int .i64 a0_3, .int .i64 a0_4, .int .i64 a0_5]] W fun e W' => e = .returned (.bool b34) ∧ Below W.heap.size W W')
    (H35 : ∀ W, Below w.heap.size w W → Calls Try.prog 35 #[.slice A6 l0_6.length c6, .int .i64 (-128), .int .i64 127] W fun e W' => e = .returned (.bool b35) ∧ Below W.heap.size W W')
    (H36 : ∀ W, Below w.heap.size w W → Calls Try.prog 36 #[.slice A9 l0_9.length c9, .int .i64 0, .int .i64 255] W fun e W' => e = .returned (.bool b36) ∧ Below W.heap.size W W')
    (H37 : ∀ W, Below w.heap.size w W → W.cell? ⟨w.heap.size + 1, 0, none⟩ = some (.int .i64 a0_0) → Calls Try.prog 37 #[.slice A8 l0_8.length c8, .func (.func 38) #[] #[.pointer (some ⟨w.heap.size + 1, 0, none⟩)]] W fun e W' => e = .returned (.bool (!b37)) ∧ Below W.heap.size W W')
    (hm6 : l0_6.length ≤ 9223372036854775807) (hm7 : l0_7.length ≤ 9223372036854775807) (hm8 : l0_8.length ≤ 9223372036854775807) :
    Calls Try.prog 17 #[.agg #[.int .i64 a0_0, .int .i64 a0_1, .int .i64 a0_2, .int .i64 a0_3, .int .i64 a0_4, .int .i64 a0_5, .slice A6 l0_6.length c6, .slice A7 l0_7.length c7, .slice A8 l0_8.length c8, .slice A9 l0_9.length c9]] w fun e w' => e = .returned (.bool (b34 && decide ((l0_6.length : Int) = a0_0) && decide (wrap64 (2 * a0_0) ≤ a0_2) && b35 && decide ((l0_8.length : Int) = a0_1) && decide ((l0_7.length : Int) ≤ 255) && b36 && b37)) ∧ Below w.heap.size w w' := by
  have hu25 := Try.underlying25
  have hu30 := Try.underlying30
  have G34 := Aside0.mk H34
  have G35 := Aside0.mk H35
  have G36 := Aside0.mk H36
  have G37 := Aside0.mk H37
  clear H34 H35 H36 H37
  cases b34 with
  | false =>
    have E : Aside0 ((false && decide ((l0_6.length : Int) = a0_0) && decide (wrap64 (2 * a0_0) ≤ a0_2) && b35 && decide ((l0_8.length : Int) = a0_1) && decide ((l0_7.length : Int) ≤ 255) && b36 && b37) = false) := ⟨by simp⟩
    rw [E.out]
    go_enter Try.func17, Try.ntmps17
    go_upto_region 2 with (fail)
    have hb := below_alloc (below_alloc (Below.refl w.heap.size w) (.cells #[.int .i64 a0_0, .int .i64 a0_1, .int .i64 a0_2, .int .i64 a0_3, .int .i64 a0_4, .int .i64 a0_5, .slice A6 l0_6.length c6, .slice A7 l0_7.length c7, .slice A8 l0_8.length c8, .slice A9 l0_9.length c9] 30)) (.cells #[.int .i64 a0_0, .int .i64 a0_1, .int .i64 a0_2, .int .i64 a0_3, .int .i64 a0_4, .int .i64 a0_5] 25)
    have bs : ((w.alloc (.cells #[.int .i64 a0_0, .int .i64 a0_1, .int .i64 a0_2, .int .i64 a0_3, .int .i64 a0_4, .int .i64 a0_5, .slice A6 l0_6.length c6, .slice A7 l0_7.length c7, .slice A8 l0_8.length c8, .slice A9 l0_9.length c9] 30)).alloc (.cells #[.int .i64 a0_0, .int .i64 a0_1, .int .i64 a0_2, .int .i64 a0_3, .int .i64 a0_4, .int .i64 a0_5] 25)).heap[w.heap.size]? = some (.cells #[.int .i64 a0_0, .int .i64 a0_1, .int .i64 a0_2, .int .i64 a0_3, .int .i64 a0_4, .int .i64 a0_5, .slice A6 l0_6.length c6, .slice A7 l0_7.length c7, .slice A8 l0_8.length c8, .slice A9 l0_9.length c9] 30 (0, 0)) := new_blk1 w _ _
    have bc : ((w.alloc (.cells #[.int .i64 a0_0, .int .i64 a0_1, .int .i64 a0_2, .int .i64 a0_3, .int .i64 a0_4, .int .i64 a0_5, .slice A6 l0_6.length c6, .slice A7 l0_7.length c7, .slice A8 l0_8.length c8, .slice A9 l0_9.length c9] 30)).alloc (.cells #[.int .i64 a0_0, .int .i64 a0_1, .int .i64 a0_2, .int .i64 a0_3, .int .i64 a0_4, .int .i64 a0_5] 25)).heap[w.heap.size + 1]? = some (.cells #[.int .i64 a0_0, .int .i64 a0_1, .int .i64 a0_2, .int .i64 a0_3, .int .i64 a0_4, .int .i64 a0_5] 25 (0, 0)) := new_blk2 w _ _
    generalize ((w.alloc (.cells #[.int .i64 a0_0, .int .i64 a0_1, .int .i64 a0_2, .int .i64 a0_3, .int .i64 a0_4, .int .i64 a0_5, .slice A6 l0_6.length c6, .slice A7 l0_7.length c7, .slice A8 l0_8.length c8, .slice A9 l0_9.length c9] 30)).alloc (.cells #[.int .i64 a0_0, .int .i64 a0_1, .int .i64 a0_2, .int .i64 a0_3, .int .i64 a0_4, .int .i64 a0_5] 25)) = w2 at hb bs bc ⊢
    have HB2 := Aside0.mk hb
    have BS2 := Aside0.mk bs
    have BC2 := Aside0.mk bc
    clear hb bs bc
    have ks2_6 : World.cell? w2 ⟨w.heap.size, 6, none⟩ = some (.slice A6 l0_6.length c6) := (blk_cell BS2.out 6).trans rfl
    have ks2_7 : World.cell? w2 ⟨w.heap.size, 7, none⟩ = some (.slice A7 l0_7.length c7) := (blk_cell BS2.out 7).trans rfl
    have ks2_8 : World.cell? w2 ⟨w.heap.size, 8, none⟩ = some (.slice A8 l0_8.length c8) := (blk_cell BS2.out 8).trans rfl
    have ks2_9 : World.cell? w2 ⟨w.heap.size, 9, none⟩ = some (.slice A9 l0_9.length c9) := (blk_cell BS2.out 9).trans rfl
    have kc2_0 : World.cell? w2 ⟨w.heap.size + 1, 0, none⟩ = some (.int .i64 a0_0) := (blk_cell BC2.out 0).trans rfl
    have kc2_1 : World.cell? w2 ⟨w.heap.size + 1, 1, none⟩ = some (.int .i64 a0_1) := (blk_cell BC2.out 1).trans rfl
    have kc2_2 : World.cell? w2 ⟨w.heap.size + 1, 2, none⟩ = some (.int .i64 a0_2) := (blk_cell BC2.out 2).trans rfl
    have kc2_3 : World.cell? w2 ⟨w.heap.size + 1, 3, none⟩ = some (.int .i64 a0_3) := (blk_cell BC2.out 3).trans rfl
    have kc2_4 : World.cell? w2 ⟨w.heap.size + 1, 4, none⟩ = some (.int .i64 a0_4) := (blk_cell BC2.out 4).trans rfl
    have kc2_5 : World.cell? w2 ⟨w.heap.size + 1, 5, none⟩ = some (.int .i64 a0_5) := (blk_cell BC2.out 5).trans rfl
    go_wp2_with (first | (go_at_call 34; refine (G34.out w2).mono ?_; rintro e w3 ⟨rfl, hb⟩; have HB3 := Aside0.mk (below_step HB2.out hb); have BS3 := Aside0.mk (blk_below BS2.out hb); have BC3 := Aside0.mk (blk_below BC2.out hb); clear hb; clear ks2_6 ks2_7 ks2_8 ks2_9 kc2_0 kc2_1 kc2_2 kc2_3 kc2_4 kc2_5; have ks3_6 : World.cell? w3 ⟨w.heap.size, 6, none⟩ = some (.slice A6 l0_6.length c6) := (blk_cell BS3.out 6).trans rfl; have ks3_7 : World.cell? w3 ⟨w.heap.size, 7, none⟩ = some (.slice A7 l0_7.length c7) := (blk_cell BS3.out 7).trans rfl; have ks3_8 : World.cell? w3 ⟨w.heap.size, 8, none⟩ = some (.slice A8 l0_8.length c8) := (blk_cell BS3.out 8).trans rfl; have ks3_9 : World.cell? w3 ⟨w.heap.size, 9, none⟩ = some (.slice A9 l0_9.length c9) := (blk_cell BS3.out 9).trans rfl; have kc3_0 : World.cell? w3 ⟨w.heap.size + 1, 0, none⟩ = some (.int .i64 a0_0) := (blk_cell BC3.out 0).trans rfl; have kc3_1 : World.cell? w3 ⟨w.heap.size + 1, 1, none⟩ = some (.int .i64 a0_1) := (blk_cell BC3.out 1).trans rfl; have kc3_2 : World.cell? w3 ⟨w.heap.size + 1, 2, none⟩ = some (.int .i64 a0_2) := (blk_cell BC3.out 2).trans rfl; have kc3_3 : World.cell? w3 ⟨w.heap.size + 1, 3, none⟩ = some (.int .i64 a0_3) := (blk_cell BC3.out 3).trans rfl; have kc3_4 : World.cell? w3 ⟨w.heap.size + 1, 4, none⟩ = some (.int .i64 a0_4) := (blk_cell BC3.out 4).trans rfl; have kc3_5 : World.cell? w3 ⟨w.heap.size + 1, 5, none⟩ = some (.int .i64 a0_5) := (blk_cell BC3.out 5).trans rfl))
    go_ret
    exact ⟨by simp, HB3.out⟩
  | true =>
    by_cases h_len6 : (l0_6.length : Int) = a0_0
    rotate_left
    · have f_len6 : ((l0_6.length : Int) == a0_0) = false := beq_false_of_ne h_len6
      have g_len6 : decide ((l0_6.length : Int) = a0_0) = false := decide_eq_false h_len6
      clear h_len6
      have E : Aside0 ((true && decide ((l0_6.length : Int) = a0_0) && decide (wrap64 (2 * a0_0) ≤ a0_2) && b35 && decide ((l0_8.length : Int) = a0_1) && decide ((l0_7.length : Int) ≤ 255) && b36 && b37) = false) := ⟨by rw [g_len6]; simp⟩
      rw [E.out]
      go_enter Try.func17, Try.ntmps17
      go_upto_region 2 with (fail)
      have hb := below_alloc (below_alloc (Below.refl w.heap.size w) (.cells #[.int .i64 a0_0, .int .i64 a0_1, .int .i64 a0_2, .int .i64 a0_3, .int .i64 a0_4, .int .i64 a0_5, .slice A6 l0_6.length c6, .slice A7 l0_7.length c7, .slice A8 l0_8.length c8, .slice A9 l0_9.length c9] 30)) (.cells #[.int .i64 a0_0, .int .i64 a0_1, .int .i64 a0_2, .int .i64 a0_3, .int .i64 a0_4, .int .i64 a0_5] 25)
      have bs : ((w.alloc (.cells #[.int .i64 a0_0, .int .i64 a0_1, .int .i64 a0_2, .int .i64 a0_3, .int .i64 a0_4, .int .i64 a0_5, .slice A6 l0_6.length c6, .slice A7 l0_7.length c7, .slice A8 l0_8.length c8, .slice A9 l0_9.length c9] 30)).alloc (.cells #[.int .i64 a0_0, .int .i64 a0_1, .int .i64 a0_2, .int .i64 a0_3, .int .i64 a0_4, .int .i64 a0_5] 25)).heap[w.heap.size]? = some (.cells #[.int .i64 a0_0, .int .i64 a0_1, .int .i64 a0_2, .int .i64 a0_3, .int .i64 a0_4, .int .i64 a0_5, .slice A6 l0_6.length c6, .slice A7 l0_7.length c7, .slice A8 l0_8.length c8, .slice A9 l0_9.length c9] 30 (0, 0)) := new_blk1 w _ _
      have bc : ((w.alloc (.cells #[.int .i64 a0_0, .int .i64 a0_1, .int .i64 a0_2, .int .i64 a0_3, .int .i64 a0_4, .int .i64 a0_5, .slice A6 l0_6.length c6, .slice A7 l0_7.length c7, .slice A8 l0_8.length c8, .slice A9 l0_9.length c9] 30)).alloc (.cells #[.int .i64 a0_0, .int .i64 a0_1, .int .i64 a0_2, .int .i64 a0_3, .int .i64 a0_4, .int .i64 a0_5] 25)).heap[w.heap.size + 1]? = some (.cells #[.int .i64 a0_0, .int .i64 a0_1, .int .i64 a0_2, .int .i64 a0_3, .int .i64 a0_4, .int .i64 a0_5] 25 (0, 0)) := new_blk2 w _ _
      generalize ((w.alloc (.cells #[.int .i64 a0_0, .int .i64 a0_1, .int .i64 a0_2, .int .i64 a0_3, .int .i64 a0_4, .int .i64 a0_5, .slice A6 l0_6.length c6, .slice A7 l0_7.length c7, .slice A8 l0_8.length c8, .slice A9 l0_9.length c9] 30)).alloc (.cells #[.int .i64 a0_0, .int .i64 a0_1, .int .i64 a0_2, .int .i64 a0_3, .int .i64 a0_4, .int .i64 a0_5] 25)) = w2 at hb bs bc ⊢
      have HB2 := Aside0.mk hb
      have BS2 := Aside0.mk bs
      have BC2 := Aside0.mk bc
      clear hb bs bc
      have ks2_6 : World.cell? w2 ⟨w.heap.size, 6, none⟩ = some (.slice A6 l0_6.length c6) := (blk_cell BS2.out 6).trans rfl
      have ks2_7 : World.cell? w2 ⟨w.heap.size, 7, none⟩ = some (.slice A7 l0_7.length c7) := (blk_cell BS2.out 7).trans rfl
      have ks2_8 : World.cell? w2 ⟨w.heap.size, 8, none⟩ = some (.slice A8 l0_8.length c8) := (blk_cell BS2.out 8).trans rfl
      have ks2_9 : World.cell? w2 ⟨w.heap.size, 9, none⟩ = some (.slice A9 l0_9.length c9) := (blk_cell BS2.out 9).trans rfl
      have kc2_0 : World.cell? w2 ⟨w.heap.size + 1, 0, none⟩ = some (.int .i64 a0_0) := (blk_cell BC2.out 0).trans rfl
      have kc2_1 : World.cell? w2 ⟨w.heap.size + 1, 1, none⟩ = some (.int .i64 a0_1) := (blk_cell BC2.out 1).trans rfl
      have kc2_2 : World.cell? w2 ⟨w.heap.size + 1, 2, none⟩ = some (.int .i64 a0_2) := (blk_cell BC2.out 2).trans rfl
      have kc2_3 : World.cell? w2 ⟨w.heap.size + 1, 3, none⟩ = some (.int .i64 a0_3) := (blk_cell BC2.out 3).trans rfl
      have kc2_4 : World.cell? w2 ⟨w.heap.size + 1, 4, none⟩ = some (.int .i64 a0_4) := (blk_cell BC2.out 4).trans rfl
      have kc2_5 : World.cell? w2 ⟨w.heap.size + 1, 5, none⟩ = some (.int .i64 a0_5) := (blk_cell BC2.out 5).trans rfl
      go_wp2_with (first | (go_at_call 34; refine (G34.out w2).mono ?_; rintro e w3 ⟨rfl, hb⟩; have HB3 := Aside0.mk (below_step HB2.out hb); have BS3 := Aside0.mk (blk_below BS2.out hb); have BC3 := Aside0.mk (blk_below BC2.out hb); clear hb; clear ks2_6 ks2_7 ks2_8 ks2_9 kc2_0 kc2_1 kc2_2 kc2_3 kc2_4 kc2_5; have ks3_6 : World.cell? w3 ⟨w.heap.size, 6, none⟩ = some (.slice A6 l0_6.length c6) := (blk_cell BS3.out 6).trans rfl; have ks3_7 : World.cell? w3 ⟨w.heap.size, 7, none⟩ = some (.slice A7 l0_7.length c7) := (blk_cell BS3.out 7).trans rfl; have ks3_8 : World.cell? w3 ⟨w.heap.size, 8, none⟩ = some (.slice A8 l0_8.length c8) := (blk_cell BS3.out 8).trans rfl; have ks3_9 : World.cell? w3 ⟨w.heap.size, 9, none⟩ = some (.slice A9 l0_9.length c9) := (blk_cell BS3.out 9).trans rfl; have kc3_0 : World.cell? w3 ⟨w.heap.size + 1, 0, none⟩ = some (.int .i64 a0_0) := (blk_cell BC3.out 0).trans rfl; have kc3_1 : World.cell? w3 ⟨w.heap.size + 1, 1, none⟩ = some (.int .i64 a0_1) := (blk_cell BC3.out 1).trans rfl; have kc3_2 : World.cell? w3 ⟨w.heap.size + 1, 2, none⟩ = some (.int .i64 a0_2) := (blk_cell BC3.out 2).trans rfl; have kc3_3 : World.cell? w3 ⟨w.heap.size + 1, 3, none⟩ = some (.int .i64 a0_3) := (blk_cell BC3.out 3).trans rfl; have kc3_4 : World.cell? w3 ⟨w.heap.size + 1, 4, none⟩ = some (.int .i64 a0_4) := (blk_cell BC3.out 4).trans rfl; have kc3_5 : World.cell? w3 ⟨w.heap.size + 1, 5, none⟩ = some (.int .i64 a0_5) := (blk_cell BC3.out 5).trans rfl))
      go_ret
      exact ⟨by simp, HB3.out⟩
    have f_len6 : ((l0_6.length : Int) == a0_0) = true := beq_iff_eq.2 h_len6
    have g_len6 : decide ((l0_6.length : Int) = a0_0) = true := decide_eq_true h_len6
    clear h_len6
    by_cases h_rec : wrap64 (2 * a0_0) ≤ a0_2
    rotate_left
    · have g_rec : decide (wrap64 (2 * a0_0) ≤ a0_2) = false := decide_eq_false h_rec
      clear h_rec
      have E : Aside0 ((true && decide ((l0_6.length : Int) = a0_0) && decide (wrap64 (2 * a0_0) ≤ a0_2) && b35 && decide ((l0_8.length : Int) = a0_1) && decide ((l0_7.length : Int) ≤ 255) && b36 && b37) = false) := ⟨by rw [g_len6, g_rec]; simp⟩
      rw [E.out]
      go_enter Try.func17, Try.ntmps17
      go_upto_region 2 with (fail)
      have hb := below_alloc (below_alloc (Below.refl w.heap.size w) (.cells #[.int .i64 a0_0, .int .i64 a0_1, .int .i64 a0_2, .int .i64 a0_3, .int .i64 a0_4, .int .i64 a0_5, .slice A6 l0_6.length c6, .slice A7 l0_7.length c7, .slice A8 l0_8.length c8, .slice A9 l0_9.length c9] 30)) (.cells #[.int .i64 a0_0, .int .i64 a0_1, .int .i64 a0_2, .int .i64 a0_3, .int .i64 a0_4, .int .i64 a0_5] 25)
      have bs : ((w.alloc (.cells #[.int .i64 a0_0, .int .i64 a0_1, .int .i64 a0_2, .int .i64 a0_3, .int .i64 a0_4, .int .i64 a0_5, .slice A6 l0_6.length c6, .slice A7 l0_7.length c7, .slice A8 l0_8.length c8, .slice A9 l0_9.length c9] 30)).alloc (.cells #[.int .i64 a0_0, .int .i64 a0_1, .int .i64 a0_2, .int .i64 a0_3, .int .i64 a0_4, .int .i64 a0_5] 25)).heap[w.heap.size]? = some (.cells #[.int .i64 a0_0, .int .i64 a0_1, .int .i64 a0_2, .int .i64 a0_3, .int .i64 a0_4, .int .i64 a0_5, .slice A6 l0_6.length c6, .slice A7 l0_7.length c7, .slice A8 l0_8.length c8, .slice A9 l0_9.length c9] 30 (0, 0)) := new_blk1 w _ _
      have bc : ((w.alloc (.cells #[.int .i64 a0_0, .int .i64 a0_1, .int .i64 a0_2, .int .i64 a0_3, .int .i64 a0_4, .int .i64 a0_5, .slice A6 l0_6.length c6, .slice A7 l0_7.length c7, .slice A8 l0_8.length c8, .slice A9 l0_9.length c9] 30)).alloc (.cells #[.int .i64 a0_0, .int .i64 a0_1, .int .i64 a0_2, .int .i64 a0_3, .int .i64 a0_4, .int .i64 a0_5] 25)).heap[w.heap.size + 1]? = some (.cells #[.int .i64 a0_0, .int .i64 a0_1, .int .i64 a0_2, .int .i64 a0_3, .int .i64 a0_4, .int .i64 a0_5] 25 (0, 0)) := new_blk2 w _ _
      generalize ((w.alloc (.cells #[.int .i64 a0_0, .int .i64 a0_1, .int .i64 a0_2, .int .i64 a0_3, .int .i64 a0_4, .int .i64 a0_5, .slice A6 l0_6.length c6, .slice A7 l0_7.length c7, .slice A8 l0_8.length c8, .slice A9 l0_9.length c9] 30)).alloc (.cells #[.int .i64 a0_0, .int .i64 a0_1, .int .i64 a0_2, .int .i64 a0_3, .int .i64 a0_4, .int .i64 a0_5] 25)) = w2 at hb bs bc ⊢
      have HB2 := Aside0.mk hb
      have BS2 := Aside0.mk bs
      have BC2 := Aside0.mk bc
      clear hb bs bc
      have ks2_6 : World.cell? w2 ⟨w.heap.size, 6, none⟩ = some (.slice A6 l0_6.length c6) := (blk_cell BS2.out 6).trans rfl
      have ks2_7 : World.cell? w2 ⟨w.heap.size, 7, none⟩ = some (.slice A7 l0_7.length c7) := (blk_cell BS2.out 7).trans rfl
      have ks2_8 : World.cell? w2 ⟨w.heap.size, 8, none⟩ = some (.slice A8 l0_8.length c8) := (blk_cell BS2.out 8).trans rfl
      have ks2_9 : World.cell? w2 ⟨w.heap.size, 9, none⟩ = some (.slice A9 l0_9.length c9) := (blk_cell BS2.out 9).trans rfl
      have kc2_0 : World.cell? w2 ⟨w.heap.size + 1, 0, none⟩ = some (.int .i64 a0_0) := (blk_cell BC2.out 0).trans rfl
      have kc2_1 : World.cell? w2 ⟨w.heap.size + 1, 1, none⟩ = some (.int .i64 a0_1) := (blk_cell BC2.out 1).trans rfl
      have kc2_2 : World.cell? w2 ⟨w.heap.size + 1, 2, none⟩ = some (.int .i64 a0_2) := (blk_cell BC2.out 2).trans rfl
      have kc2_3 : World.cell? w2 ⟨w.heap.size + 1, 3, none⟩ = some (.int .i64 a0_3) := (blk_cell BC2.out 3).trans rfl
      have kc2_4 : World.cell? w2 ⟨w.heap.size + 1, 4, none⟩ = some (.int .i64 a0_4) := (blk_cell BC2.out 4).trans rfl
      have kc2_5 : World.cell? w2 ⟨w.heap.size + 1, 5, none⟩ = some (.int .i64 a0_5) := (blk_cell BC2.out 5).trans rfl
      go_wp2_with (first | (go_at_call 34; refine (G34.out w2).mono ?_; rintro e w3 ⟨rfl, hb⟩; have HB3 := Aside0.mk (below_step HB2.out hb); have BS3 := Aside0.mk (blk_below BS2.out hb); have BC3 := Aside0.mk (blk_below BC2.out hb); clear hb; clear ks2_6 ks2_7 ks2_8 ks2_9 kc2_0 kc2_1 kc2_2 kc2_3 kc2_4 kc2_5; have ks3_6 : World.cell? w3 ⟨w.heap.size, 6, none⟩ = some (.slice A6 l0_6.length c6) := (blk_cell BS3.out 6).trans rfl; have ks3_7 : World.cell? w3 ⟨w.heap.size, 7, none⟩ = some (.slice A7 l0_7.length c7) := (blk_cell BS3.out 7).trans rfl; have ks3_8 : World.cell? w3 ⟨w.heap.size, 8, none⟩ = some (.slice A8 l0_8.length c8) := (blk_cell BS3.out 8).trans rfl; have ks3_9 : World.cell? w3 ⟨w.heap.size, 9, none⟩ = some (.slice A9 l0_9.length c9) := (blk_cell BS3.out 9).trans rfl; have kc3_0 : World.cell? w3 ⟨w.heap.size + 1, 0, none⟩ = some (.int .i64 a0_0) := (blk_cell BC3.out 0).trans rfl; have kc3_1 : World.cell? w3 ⟨w.heap.size + 1, 1, none⟩ = some (.int .i64 a0_1) := (blk_cell BC3.out 1).trans rfl; have kc3_2 : World.cell? w3 ⟨w.heap.size + 1, 2, none⟩ = some (.int .i64 a0_2) := (blk_cell BC3.out 2).trans rfl; have kc3_3 : World.cell? w3 ⟨w.heap.size + 1, 3, none⟩ = some (.int .i64 a0_3) := (blk_cell BC3.out 3).trans rfl; have kc3_4 : World.cell? w3 ⟨w.heap.size + 1, 4, none⟩ = some (.int .i64 a0_4) := (blk_cell BC3.out 4).trans rfl; have kc3_5 : World.cell? w3 ⟨w.heap.size + 1, 5, none⟩ = some (.int .i64 a0_5) := (blk_cell BC3.out 5).trans rfl))
      go_ret
      exact ⟨by simp, HB3.out⟩
    have g_rec : decide (wrap64 (2 * a0_0) ≤ a0_2) = true := decide_eq_true h_rec
    clear h_rec
    cases b35 with
    | false =>
      have E : Aside0 ((true && decide ((l0_6.length : Int) = a0_0) && decide (wrap64 (2 * a0_0) ≤ a0_2) && false && decide ((l0_8.length : Int) = a0_1) && decide ((l0_7.length : Int) ≤ 255) && b36 && b37) = false) := ⟨by rw [g_len6, g_rec]; simp⟩
      rw [E.out]
      go_enter Try.func17, Try.ntmps17
      go_upto_region 2 with (fail)
      have hb := below_alloc (below_alloc (Below.refl w.heap.size w) (.cells #[.int .i64 a0_0, .int .i64 a0_1, .int .i64 a0_2, .int .i64 a0_3, .int .i64 a0_4, .int .i64 a0_5, .slice A6 l0_6.length c6, .slice A7 l0_7.length c7, .slice A8 l0_8.length c8, .slice A9 l0_9.length c9] 30)) (.cells #[.int .i64 a0_0, .int .i64 a0_1, .int .i64 a0_2, .int .i64 a0_3, .int .i64 a0_4, .int .i64 a0_5] 25)
      have bs : ((w.alloc (.cells #[.int .i64 a0_0, .int .i64 a0_1, .int .i64 a0_2, .int .i64 a0_3, .int .i64 a0_4, .int .i64 a0_5, .slice A6 l0_6.length c6, .slice A7 l0_7.length c7, .slice A8 l0_8.length c8, .slice A9 l0_9.length c9] 30)).alloc (.cells #[.int .i64 a0_0, .int .i64 a0_1, .int .i64 a0_2, .int .i64 a0_3, .int .i64 a0_4, .int .i64 a0_5] 25)).heap[w.heap.size]? = some (.cells #[.int .i64 a0_0, .int .i64 a0_1, .int .i64 a0_2, .int .i64 a0_3, .int .i64 a0_4, .int .i64 a0_5, .slice A6 l0_6.length c6, .slice A7 l0_7.length c7, .slice A8 l0_8.length c8, .slice A9 l0_9.length c9] 30 (0, 0)) := new_blk1 w _ _
      have bc : ((w.alloc (.cells #[.int .i64 a0_0, .int .i64 a0_1, .int .i64 a0_2, .int .i64 a0_3, .int .i64 a0_4, .int .i64 a0_5, .slice A6 l0_6.length c6, .slice A7 l0_7.length c7, .slice A8 l0_8.length c8, .slice A9 l0_9.length c9] 30)).alloc (.cells #[.int .i64 a0_0, .int .i64 a0_1, .int .i64 a0_2, .int .i64 a0_3, .int .i64 a0_4, .int .i64 a0_5] 25)).heap[w.heap.size + 1]? = some (.cells #[.int .i64 a0_0, .int .i64 a0_1, .int .i64 a0_2, .int .i64 a0_3, .int .i64 a0_4, .int .i64 a0_5] 25 (0, 0)) := new_blk2 w _ _
      generalize ((w.alloc (.cells #[.int .i64 a0_0, .int .i64 a0_1, .int .i64 a0_2, .int .i64 a0_3, .int .i64 a0_4, .int .i64 a0_5, .slice A6 l0_6.length c6, .slice A7 l0_7.length c7, .slice A8 l0_8.length c8, .slice A9 l0_9.length c9] 30)).alloc (.cells #[.int .i64 a0_0, .int .i64 a0_1, .int .i64 a0_2, .int .i64 a0_3, .int .i64 a0_4, .int .i64 a0_5] 25)) = w2 at hb bs bc ⊢
      have HB2 := Aside0.mk hb
      have BS2 := Aside0.mk bs
      have BC2 := Aside0.mk bc
      clear hb bs bc
      have ks2_6 : World.cell? w2 ⟨w.heap.size, 6, none⟩ = some (.slice A6 l0_6.length c6) := (blk_cell BS2.out 6).trans rfl
      have ks2_7 : World.cell? w2 ⟨w.heap.size, 7, none⟩ = some (.slice A7 l0_7.length c7) := (blk_cell BS2.out 7).trans rfl
      have ks2_8 : World.cell? w2 ⟨w.heap.size, 8, none⟩ = some (.slice A8 l0_8.length c8) := (blk_cell BS2.out 8).trans rfl
      have ks2_9 : World.cell? w2 ⟨w.heap.size, 9, none⟩ = some (.slice A9 l0_9.length c9) := (blk_cell BS2.out 9).trans rfl
      have kc2_0 : World.cell? w2 ⟨w.heap.size + 1, 0, none⟩ = some (.int .i64 a0_0) := (blk_cell BC2.out 0).trans rfl
      have kc2_1 : World.cell? w2 ⟨w.heap.size + 1, 1, none⟩ = some (.int .i64 a0_1) := (blk_cell BC2.out 1).trans rfl
      have kc2_2 : World.cell? w2 ⟨w.heap.size + 1, 2, none⟩ = some (.int .i64 a0_2) := (blk_cell BC2.out 2).trans rfl
      have kc2_3 : World.cell? w2 ⟨w.heap.size + 1, 3, none⟩ = some (.int .i64 a0_3) := (blk_cell BC2.out 3).trans rfl
      have kc2_4 : World.cell? w2 ⟨w.heap.size + 1, 4, none⟩ = some (.int .i64 a0_4) := (blk_cell BC2.out 4).trans rfl
      have kc2_5 : World.cell? w2 ⟨w.heap.size + 1, 5, none⟩ = some (.int .i64 a0_5) := (blk_cell BC2.out 5).trans rfl
      go_wp2_with (first | (go_at_call 34; refine (G34.out w2).mono ?_; rintro e w3 ⟨rfl, hb⟩; have HB3 := Aside0.mk (below_step HB2.out hb); have BS3 := Aside0.mk (blk_below BS2.out hb); have BC3 := Aside0.mk (blk_below BC2.out hb); clear hb; clear ks2_6 ks2_7 ks2_8 ks2_9 kc2_0 kc2_1 kc2_2 kc2_3 kc2_4 kc2_5; have ks3_6 : World.cell? w3 ⟨w.heap.size, 6, none⟩ = some (.slice A6 l0_6.length c6) := (blk_cell BS3.out 6).trans rfl; have ks3_7 : World.cell? w3 ⟨w.heap.size, 7, none⟩ = some (.slice A7 l0_7.length c7) := (blk_cell BS3.out 7).trans rfl; have ks3_8 : World.cell? w3 ⟨w.heap.size, 8, none⟩ = some (.slice A8 l0_8.length c8) := (blk_cell BS3.out 8).trans rfl; have ks3_9 : World.cell? w3 ⟨w.heap.size, 9, none⟩ = some (.slice A9 l0_9.length c9) := (blk_cell BS3.out 9).trans rfl; have kc3_0 : World.cell? w3 ⟨w.heap.size + 1, 0, none⟩ = some (.int .i64 a0_0) := (blk_cell BC3.out 0).trans rfl; have kc3_1 : World.cell? w3 ⟨w.heap.size + 1, 1, none⟩ = some (.int .i64 a0_1) := (blk_cell BC3.out 1).trans rfl; have kc3_2 : World.cell? w3 ⟨w.heap.size + 1, 2, none⟩ = some (.int .i64 a0_2) := (blk_cell BC3.out 2).trans rfl; have kc3_3 : World.cell? w3 ⟨w.heap.size + 1, 3, none⟩ = some (.int .i64 a0_3) := (blk_cell BC3.out 3).trans rfl; have kc3_4 : World.cell? w3 ⟨w.heap.size + 1, 4, none⟩ = some (.int .i64 a0_4) := (blk_cell BC3.out 4).trans rfl; have kc3_5 : World.cell? w3 ⟨w.heap.size + 1, 5, none⟩ = some (.int .i64 a0_5) := (blk_cell BC3.out 5).trans rfl) | (go_at_call 35; refine (G35.out w3 HB3.out).mono ?_; rintro e w4 ⟨rfl, hb⟩; have HB4 := Aside0.mk (below_step HB3.out hb); have BS4 := Aside0.mk (blk_below BS3.out hb); have BC4 := Aside0.mk (blk_below BC3.out hb); clear hb; clear ks3_6 ks3_7 ks3_8 ks3_9 kc3_0 kc3_1 kc3_2 kc3_3 kc3_4 kc3_5; have ks4_6 : World.cell? w4 ⟨w.heap.size, 6, none⟩ = some (.slice A6 l0_6.length c6) := (blk_cell BS4.out 6).trans rfl; have ks4_7 : World.cell? w4 ⟨w.heap.size, 7, none⟩ = some (.slice A7 l0_7.length c7) := (blk_cell BS4.out 7).trans rfl; have ks4_8 : World.cell? w4 ⟨w.heap.size, 8, none⟩ = some (.slice A8 l0_8.length c8) := (blk_cell BS4.out 8).trans rfl; have ks4_9 : World.cell? w4 ⟨w.heap.size, 9, none⟩ = some (.slice A9 l0_9.length c9) := (blk_cell BS4.out 9).trans rfl; have kc4_0 : World.cell? w4 ⟨w.heap.size + 1, 0, none⟩ = some (.int .i64 a0_0) := (blk_cell BC4.out 0).trans rfl; have kc4_1 : World.cell? w4 ⟨w.heap.size + 1, 1, none⟩ = some (.int .i64 a0_1) := (blk_cell BC4.out 1).trans rfl; have kc4_2 : World.cell? w4 ⟨w.heap.size + 1, 2, none⟩ = some (.int .i64 a0_2) := (blk_cell BC4.out 2).trans rfl; have kc4_3 : World.cell? w4 ⟨w.heap.size + 1, 3, none⟩ = some (.int .i64 a0_3) := (blk_cell BC4.out 3).trans rfl; have kc4_4 : World.cell? w4 ⟨w.heap.size + 1, 4, none⟩ = some (.int .i64 a0_4) := (blk_cell BC4.out 4).trans rfl; have kc4_5 : World.cell? w4 ⟨w.heap.size + 1, 5, none⟩ = some (.int .i64 a0_5) := (blk_cell BC4.out 5).trans rfl))
      go_ret
      exact ⟨by simp, HB4.out⟩
    | true =>
      by_cases h_len8 : (l0_8.length : Int) = a0_1
      rotate_left
      · have f_len8 : ((l0_8.length : Int) == a0_1) = false := beq_false_of_ne h_len8
        have g_len8 : decide ((l0_8.length : Int) = a0_1) = false := decide_eq_false h_len8
        clear h_len8
        have E : Aside0 ((true && decide ((l0_6.length : Int) = a0_0) && decide (wrap64 (2 * a0_0) ≤ a0_2) && true && decide ((l0_8.length : Int) = a0_1) && decide ((l0_7.length : Int) ≤ 255) && b36 && b37) = false) := ⟨by rw [g_len6, g_rec, g_len8]; simp⟩
        rw [E.out]
        go_enter Try.func17, Try.ntmps17
        go_upto_region 2 with (fail)
        have hb := below_alloc (below_alloc (Below.refl w.heap.size w) (.cells #[.int .i64 a0_0, .int .i64 a0_1, .int .i64 a0_2, .int .i64 a0_3, .int .i64 a0_4, .int .i64 a0_5, .slice A6 l0_6.length c6, .slice A7 l0_7.length c7, .slice A8 l0_8.length c8, .slice A9 l0_9.length c9] 30)) (.cells #[.int .i64 a0_0, .int .i64 a0_1, .int .i64 a0_2, .int .i64 a0_3, .int .i64 a0_4, .int .i64 a0_5] 25)
        have bs : ((w.alloc (.cells #[.int .i64 a0_0, .int .i64 a0_1, .int .i64 a0_2, .int .i64 a0_3, .int .i64 a0_4, .int .i64 a0_5, .slice A6 l0_6.length c6, .slice A7 l0_7.length c7, .slice A8 l0_8.length c8, .slice A9 l0_9.length c9] 30)).alloc (.cells #[.int .i64 a0_0, .int .i64 a0_1, .int .i64 a0_2, .int .i64 a0_3, .int .i64 a0_4, .int .i64 a0_5] 25)).heap[w.heap.size]? = some (.cells #[.int .i64 a0_0, .int .i64 a0_1, .int .i64 a0_2, .int .i64 a0_3, .int .i64 a0_4, .int .i64 a0_5, .slice A6 l0_6.length c6, .slice A7 l0_7.length c7, .slice A8 l0_8.length c8, .slice A9 l0_9.length c9] 30 (0, 0)) := new_blk1 w _ _
        have bc : ((w.alloc (.cells #[.int .i64 a0_0, .int .i64 a0_1, .int .i64 a0_2, .int .i64 a0_3, .int .i64 a0_4, .int .i64 a0_5, .slice A6 l0_6.length c6, .slice A7 l0_7.length c7, .slice A8 l0_8.length c8, .slice A9 l0_9.length c9] 30)).alloc (.cells #[.int .i64 a0_0, .int .i64 a0_1, .int .i64 a0_2, .int .i64 a0_3, .int .i64 a0_4, .int .i64 a0_5] 25)).heap[w.heap.size + 1]? = some (.cells #[.int .i64 a0_0, .int .i64 a0_1, .int .i64 a0_2, .int .i64 a0_3, .int .i64 a0_4, .int .i64 a0_5] 25 (0, 0)) := new_blk2 w _ _
        generalize ((w.alloc (.cells #[.int .i64 a0_0, .int .i64 a0_1, .int .i64 a0_2, .int .i64 a0_3, .int .i64 a0_4, .int .i64 a0_5, .slice A6 l0_6.length c6, .slice A7 l0_7.length c7, .slice A8 l0_8.length c8, .slice A9 l0_9.length c9] 30)).alloc (.cells #[.int .i64 a0_0, .int .i64 a0_1, .int .i64 a0_2, .int .i64 a0_3, .int .i64 a0_4, .int .i64 a0_5] 25)) = w2 at hb bs bc ⊢
        have HB2 := Aside0.mk hb
        have BS2 := Aside0.mk bs
        have BC2 := Aside0.mk bc
        clear hb bs bc
        have ks2_6 : World.cell? w2 ⟨w.heap.size, 6, none⟩ = some (.slice A6 l0_6.length c6) := (blk_cell BS2.out 6).trans rfl
        have ks2_7 : World.cell? w2 ⟨w.heap.size, 7, none⟩ = some (.slice A7 l0_7.length c7) := (blk_cell BS2.out 7).trans rfl
        have ks2_8 : World.cell? w2 ⟨w.heap.size, 8, none⟩ = some (.slice A8 l0_8.length c8) := (blk_cell BS2.out 8).trans rfl
        have ks2_9 : World.cell? w2 ⟨w.heap.size, 9, none⟩ = some (.slice A9 l0_9.length c9) := (blk_cell BS2.out 9).trans rfl
        have kc2_0 : World.cell? w2 ⟨w.heap.size + 1, 0, none⟩ = some (.int .i64 a0_0) := (blk_cell BC2.out 0).trans rfl
        have kc2_1 : World.cell? w2 ⟨w.heap.size + 1, 1, none⟩ = some (.int .i64 a0_1) := (blk_cell BC2.out 1).trans rfl
        have kc2_2 : World.cell? w2 ⟨w.heap.size + 1, 2, none⟩ = some (.int .i64 a0_2) := (blk_cell BC2.out 2).trans rfl
        have kc2_3 : World.cell? w2 ⟨w.heap.size + 1, 3, none⟩ = some (.int .i64 a0_3) := (blk_cell BC2.out 3).trans rfl
        have kc2_4 : World.cell? w2 ⟨w.heap.size + 1, 4, none⟩ = some (.int .i64 a0_4) := (blk_cell BC2.out 4).trans rfl
        have kc2_5 : World.cell? w2 ⟨w.heap.size + 1, 5, none⟩ = some (.int .i64 a0_5) := (blk_cell BC2.out 5).trans rfl
        go_wp2_with (first | (go_at_call 34; refine (G34.out w2).mono ?_; rintro e w3 ⟨rfl, hb⟩; have HB3 := Aside0.mk (below_step HB2.out hb); have BS3 := Aside0.mk (blk_below BS2.out hb); have BC3 := Aside0.mk (blk_below BC2.out hb); clear hb; clear ks2_6 ks2_7 ks2_8 ks2_9 kc2_0 kc2_1 kc2_2 kc2_3 kc2_4 kc2_5; have ks3_6 : World.cell? w3 ⟨w.heap.size, 6, none⟩ = some (.slice A6 l0_6.length c6) := (blk_cell BS3.out 6).trans rfl; have ks3_7 : World.cell? w3 ⟨w.heap.size, 7, none⟩ = some (.slice A7 l0_7.length c7) := (blk_cell BS3.out 7).trans rfl; have ks3_8 : World.cell? w3 ⟨w.heap.size, 8, none⟩ = some (.slice A8 l0_8.length c8) := (blk_cell BS3.out 8).trans rfl; have ks3_9 : World.cell? w3 ⟨w.heap.size, 9, none⟩ = some (.slice A9 l0_9.length c9) := (blk_cell BS3.out 9).trans rfl; have kc3_0 : World.cell? w3 ⟨w.heap.size + 1, 0, none⟩ = some (.int .i64 a0_0) := (blk_cell BC3.out 0).trans rfl; have kc3_1 : World.cell? w3 ⟨w.heap.size + 1, 1, none⟩ = some (.int .i64 a0_1) := (blk_cell BC3.out 1).trans rfl; have kc3_2 : World.cell? w3 ⟨w.heap.size + 1, 2, none⟩ = some (.int .i64 a0_2) := (blk_cell BC3.out 2).trans rfl; have kc3_3 : World.cell? w3 ⟨w.heap.size + 1, 3, none⟩ = some (.int .i64 a0_3) := (blk_cell BC3.out 3).trans rfl; have kc3_4 : World.cell? w3 ⟨w.heap.size + 1, 4, none⟩ = some (.int .i64 a0_4) := (blk_cell BC3.out 4).trans rfl; have kc3_5 : World.cell? w3 ⟨w.heap.size + 1, 5, none⟩ = some (.int .i64 a0_5) := (blk_cell BC3.out 5).trans rfl) | (go_at_call 35; refine (G35.out w3 HB3.out).mono ?_; rintro e w4 ⟨rfl, hb⟩; have HB4 := Aside0.mk (below_step HB3.out hb); have BS4 := Aside0.mk (blk_below BS3.out hb); have BC4 := Aside0.mk (blk_below BC3.out hb); clear hb; clear ks3_6 ks3_7 ks3_8 ks3_9 kc3_0 kc3_1 kc3_2 kc3_3 kc3_4 kc3_5; have ks4_6 : World.cell? w4 ⟨w.heap.size, 6, none⟩ = some (.slice A6 l0_6.length c6) := (blk_cell BS4.out 6).trans rfl; have ks4_7 : World.cell? w4 ⟨w.heap.size, 7, none⟩ = some (.slice A7 l0_7.length c7) := (blk_cell BS4.out 7).trans rfl; have ks4_8 : World.cell? w4 ⟨w.heap.size, 8, none⟩ = some (.slice A8 l0_8.length c8) := (blk_cell BS4.out 8).trans rfl; have ks4_9 : World.cell? w4 ⟨w.heap.size, 9, none⟩ = some (.slice A9 l0_9.length c9) := (blk_cell BS4.out 9).trans rfl; have kc4_0 : World.cell? w4 ⟨w.heap.size + 1, 0, none⟩ = some (.int .i64 a0_0) := (blk_cell BC4.out 0).trans rfl; have kc4_1 : World.cell? w4 ⟨w.heap.size + 1, 1, none⟩ = some (.int .i64 a0_1) := (blk_cell BC4.out 1).trans rfl; have kc4_2 : World.cell? w4 ⟨w.heap.size + 1, 2, none⟩ = some (.int .i64 a0_2) := (blk_cell BC4.out 2).trans rfl; have kc4_3 : World.cell? w4 ⟨w.heap.size + 1, 3, none⟩ = some (.int .i64 a0_3) := (blk_cell BC4.out 3).trans rfl; have kc4_4 : World.cell? w4 ⟨w.heap.size + 1, 4, none⟩ = some (.int .i64 a0_4) := (blk_cell BC4.out 4).trans rfl; have kc4_5 : World.cell? w4 ⟨w.heap.size + 1, 5, none⟩ = some (.int .i64 a0_5) := (blk_cell BC4.out 5).trans rfl))
        go_ret
        exact ⟨by simp, HB4.out⟩
      have f_len8 : ((l0_8.length : Int) == a0_1) = true := beq_iff_eq.2 h_len8
      have g_len8 : decide ((l0_8.length : Int) = a0_1) = true := decide_eq_true h_len8
      clear h_len8
      by_cases h_len7 : (l0_7.length : Int) ≤ 255
      rotate_left
      · have g_len7 : decide ((l0_7.length : Int) ≤ 255) = false := decide_eq_false h_len7
        clear h_len7
        have E : Aside0 ((true && decide ((l0_6.length : Int) = a0_0) && decide (wrap64 (2 * a0_0) ≤ a0_2) && true && decide ((l0_8.length : Int) = a0_1) && decide ((l0_7.length : Int) ≤ 255) && b36 && b37) = false) := ⟨by rw [g_len6, g_rec, g_len8, g_len7]; simp⟩
        rw [E.out]
        go_enter Try.func17, Try.ntmps17
        go_upto_region 2 with (fail)
        have hb := below_alloc (below_alloc (Below.refl w.heap.size w) (.cells #[.int .i64 a0_0, .int .i64 a0_1, .int .i64 a0_2, .int .i64 a0_3, .int .i64 a0_4, .int .i64 a0_5, .slice A6 l0_6.length c6, .slice A7 l0_7.length c7, .slice A8 l0_8.length c8, .slice A9 l0_9.length c9] 30)) (.cells #[.int .i64 a0_0, .int .i64 a0_1, .int .i64 a0_2, .int .i64 a0_3, .int .i64 a0_4, .int .i64 a0_5] 25)
        have bs : ((w.alloc (.cells #[.int .i64 a0_0, .int .i64 a0_1, .int .i64 a0_2, .int .i64 a0_3, .int .i64 a0_4, .int .i64 a0_5, .slice A6 l0_6.length c6, .slice A7 l0_7.length c7, .slice A8 l0_8.length c8, .slice A9 l0_9.length c9] 30)).alloc (.cells #[.int .i64 a0_0, .int .i64 a0_1, .int .i64 a0_2, .int .i64 a0_3, .int .i64 a0_4, .int .i64 a0_5] 25)).heap[w.heap.size]? = some (.cells #[.int .i64 a0_0, .int .i64 a0_1, .int .i64 a0_2, .int .i64 a0_3, .int .i64 a0_4, .int .i64 a0_5, .slice A6 l0_6.length c6, .slice A7 l0_7.length c7, .slice A8 l0_8.length c8, .slice A9 l0_9.length c9] 30 (0, 0)) := new_blk1 w _ _
        have bc : ((w.alloc (.cells #[.int .i64 a0_0, .int .i64 a0_1, .int .i64 a0_2, .int .i64 a0_3, .int .i64 a0_4, .int .i64 a0_5, .slice A6 l0_6.length c6, .slice A7 l0_7.length c7, .slice A8 l0_8.length c8, .slice A9 l0_9.length c9] 30)).alloc (.cells #[.int .i64 a0_0, .int .i64 a0_1, .int .i64 a0_2, .int .i64 a0_3, .int .i64 a0_4, .int .i64 a0_5] 25)).heap[w.heap.size + 1]? = some (.cells #[.int .i64 a0_0, .int .i64 a0_1, .int .i64 a0_2, .int .i64 a0_3, .int .i64 a0_4, .int .i64 a0_5] 25 (0, 0)) := new_blk2 w _ _
        generalize ((w.alloc (.cells #[.int .i64 a0_0, .int .i64 a0_1, .int .i64 a0_2, .int .i64 a0_3, .int .i64 a0_4, .int .i64 a0_5, .slice A6 l0_6.length c6, .slice A7 l0_7.length c7, .slice A8 l0_8.length c8, .slice A9 l0_9.length c9] 30)).alloc (.cells #[.int .i64 a0_0, .int .i64 a0_1, .int .i64 a0_2, .int .i64 a0_3, .int .i64 a0_4, .int .i64 a0_5] 25)) = w2 at hb bs bc ⊢
        have HB2 := Aside0.mk hb
        have BS2 := Aside0.mk bs
        have BC2 := Aside0.mk bc
        clear hb bs bc
        have ks2_6 : World.cell? w2 ⟨w.heap.size, 6, none⟩ = some (.slice A6 l0_6.length c6) := (blk_cell BS2.out 6).trans rfl
        have ks2_7 : World.cell? w2 ⟨w.heap.size, 7, none⟩ = some (.slice A7 l0_7.length c7) := (blk_cell BS2.out 7).trans rfl
        have ks2_8 : World.cell? w2 ⟨w.heap.size, 8, none⟩ = some (.slice A8 l0_8.length c8) := (blk_cell BS2.out 8).trans rfl
        have ks2_9 : World.cell? w2 ⟨w.heap.size, 9, none⟩ = some (.slice A9 l0_9.length c9) := (blk_cell BS2.out 9).trans rfl
        have kc2_0 : World.cell? w2 ⟨w.heap.size + 1, 0, none⟩ = some (.int .i64 a0_0) := (blk_cell BC2.out 0).trans rfl
        have kc2_1 : World.cell? w2 ⟨w.heap.size + 1, 1, none⟩ = some (.int .i64 a0_1) := (blk_cell BC2.out 1).trans rfl
        have kc2_2 : World.cell? w2 ⟨w.heap.size + 1, 2, none⟩ = some (.int .i64 a0_2) := (blk_cell BC2.out 2).trans rfl
        have kc2_3 : World.cell? w2 ⟨w.heap.size + 1, 3, none⟩ = some (.int .i64 a0_3) := (blk_cell BC2.out 3).trans rfl
        have kc2_4 : World.cell? w2 ⟨w.heap.size + 1, 4, none⟩ = some (.int .i64 a0_4) := (blk_cell BC2.out 4).trans rfl
        have kc2_5 : World.cell? w2 ⟨w.heap.size + 1, 5, none⟩ = some (.int .i64 a0_5) := (blk_cell BC2.out 5).trans rfl
        go_wp2_with (first | (go_at_call 34; refine (G34.out w2).mono ?_; rintro e w3 ⟨rfl, hb⟩; have HB3 := Aside0.mk (below_step HB2.out hb); have BS3 := Aside0.mk (blk_below BS2.out hb); have BC3 := Aside0.mk (blk_below BC2.out hb); clear hb; clear ks2_6 ks2_7 ks2_8 ks2_9 kc2_0 kc2_1 kc2_2 kc2_3 kc2_4 kc2_5; have ks3_6 : World.cell? w3 ⟨w.heap.size, 6, none⟩ = some (.slice A6 l0_6.length c6) := (blk_cell BS3.out 6).trans rfl; have ks3_7 : World.cell? w3 ⟨w.heap.size, 7, none⟩ = some (.slice A7 l0_7.length c7) := (blk_cell BS3.out 7).trans rfl; have ks3_8 : World.cell? w3 ⟨w.heap.size, 8, none⟩ = some (.slice A8 l0_8.length c8) := (blk_cell BS3.out 8).trans rfl; have ks3_9 : World.cell? w3 ⟨w.heap.size, 9, none⟩ = some (.slice A9 l0_9.length c9) := (blk_cell BS3.out 9).trans rfl; have kc3_0 : World.cell? w3 ⟨w.heap.size + 1, 0, none⟩ = some (.int .i64 a0_0) := (blk_cell BC3.out 0).trans rfl; have kc3_1 : World.cell? w3 ⟨w.heap.size + 1, 1, none⟩ = some (.int .i64 a0_1) := (blk_cell BC3.out 1).trans rfl; have kc3_2 : World.cell? w3 ⟨w.heap.size + 1, 2, none⟩ = some (.int .i64 a0_2) := (blk_cell BC3.out 2).trans rfl; have kc3_3 : World.cell? w3 ⟨w.heap.size + 1, 3, none⟩ = some (.int .i64 a0_3) := (blk_cell BC3.out 3).trans rfl; have kc3_4 : World.cell? w3 ⟨w.heap.size + 1, 4, none⟩ = some (.int .i64 a0_4) := (blk_cell BC3.out 4).trans rfl; have kc3_5 : World.cell? w3 ⟨w.heap.size + 1, 5, none⟩ = some (.int .i64 a0_5) := (blk_cell BC3.out 5).trans rfl) | (go_at_call 35; refine (G35.out w3 HB3.out).mono ?_; rintro e w4 ⟨rfl, hb⟩; have HB4 := Aside0.mk (below_step HB3.out hb); have BS4 := Aside0.mk (blk_below BS3.out hb); have BC4 := Aside0.mk (blk_below BC3.out hb); clear hb; clear ks3_6 ks3_7 ks3_8 ks3_9 kc3_0 kc3_1 kc3_2 kc3_3 kc3_4 kc3_5; have ks4_6 : World.cell? w4 ⟨w.heap.size, 6, none⟩ = some (.slice A6 l0_6.length c6) := (blk_cell BS4.out 6).trans rfl; have ks4_7 : World.cell? w4 ⟨w.heap.size, 7, none⟩ = some (.slice A7 l0_7.length c7) := (blk_cell BS4.out 7).trans rfl; have ks4_8 : World.cell? w4 ⟨w.heap.size, 8, none⟩ = some (.slice A8 l0_8.length c8) := (blk_cell BS4.out 8).trans rfl; have ks4_9 : World.cell? w4 ⟨w.heap.size, 9, none⟩ = some (.slice A9 l0_9.length c9) := (blk_cell BS4.out 9).trans rfl; have kc4_0 : World.cell? w4 ⟨w.heap.size + 1, 0, none⟩ = some (.int .i64 a0_0) := (blk_cell BC4.out 0).trans rfl; have kc4_1 : World.cell? w4 ⟨w.heap.size + 1, 1, none⟩ = some (.int .i64 a0_1) := (blk_cell BC4.out 1).trans rfl; have kc4_2 : World.cell? w4 ⟨w.heap.size + 1, 2, none⟩ = some (.int .i64 a0_2) := (blk_cell BC4.out 2).trans rfl; have kc4_3 : World.cell? w4 ⟨w.heap.size + 1, 3, none⟩ = some (.int .i64 a0_3) := (blk_cell BC4.out 3).trans rfl; have kc4_4 : World.cell? w4 ⟨w.heap.size + 1, 4, none⟩ = some (.int .i64 a0_4) := (blk_cell BC4.out 4).trans rfl; have kc4_5 : World.cell? w4 ⟨w.heap.size + 1, 5, none⟩ = some (.int .i64 a0_5) := (blk_cell BC4.out 5).trans rfl))
        go_ret
        exact ⟨by simp, HB4.out⟩
      have g_len7 : decide ((l0_7.length : Int) ≤ 255) = true := decide_eq_true h_len7
      clear h_len7
      cases b36 with
      | false =>
        have E : Aside0 ((true && decide ((l0_6.length : Int) = a0_0) && decide (wrap64 (2 * a0_0) ≤ a0_2) && true && decide ((l0_8.length : Int) = a0_1) && decide ((l0_7.length : Int) ≤ 255) && false && b37) = false) := ⟨by rw [g_len6, g_rec, g_len8, g_len7]; simp⟩
        rw [E.out]
        go_enter Try.func17, Try.ntmps17
        go_upto_region 2 with (fail)
        have hb := below_alloc (below_alloc (Below.refl w.heap.size w) (.cells #[.int .i64 a0_0, .int .i64 a0_1, .int .i64 a0_2, .int .i64 a0_3, .int .i64 a0_4, .int .i64 a0_5, .slice A6 l0_6.length c6, .slice A7 l0_7.length c7, .slice A8 l0_8.length c8, .slice A9 l0_9.length c9] 30)) (.cells #[.int .i64 a0_0, .int .i64 a0_1, .int .i64 a0_2, .int .i64 a0_3, .int .i64 a0_4, .int .i64 a0_5] 25)
        have bs : ((w.alloc (.cells #[.int .i64 a0_0, .int .i64 a0_1, .int .i64 a0_2, .int .i64 a0_3, .int .i64 a0_4, .int .i64 a0_5, .slice A6 l0_6.length c6, .slice A7 l0_7.length c7, .slice A8 l0_8.length c8, .slice A9 l0_9.length c9] 30)).alloc (.cells #[.int .i64 a0_0, .int .i64 a0_1, .int .i64 a0_2, .int .i64 a0_3, .int .i64 a0_4, .int .i64 a0_5] 25)).heap[w.heap.size]? = some (.cells #[.int .i64 a0_0, .int .i64 a0_1, .int .i64 a0_2, .int .i64 a0_3, .int .i64 a0_4, .int .i64 a0_5, .slice A6 l0_6.length c6, .slice A7 l0_7.length c7, .slice A8 l0_8.length c8, .slice A9 l0_9.length c9] 30 (0, 0)) := new_blk1 w _ _
        have bc : ((w.alloc (.cells #[.int .i64 a0_0, .int .i64 a0_1, .int .i64 a0_2, .int .i64 a0_3, .int .i64 a0_4, .int .i64 a0_5, .slice A6 l0_6.length c6, .slice A7 l0_7.length c7, .slice A8 l0_8.length c8, .slice A9 l0_9.length c9] 30)).alloc (.cells #[.int .i64 a0_0, .int .i64 a0_1, .int .i64 a0_2, .int .i64 a0_3, .int .i64 a0_4, .int .i64 a0_5] 25)).heap[w.heap.size + 1]? = some (.cells #[.int .i64 a0_0, .int .i64 a0_1, .int .i64 a0_2, .int .i64 a0_3, .int .i64 a0_4, .int .i64 a0_5] 25 (0, 0)) := new_blk2 w _ _
        generalize ((w.alloc (.cells #[.int .i64 a0_0, .int .i64 a0_1, .int .i64 a0_2, .int .i64 a0_3, .int .i64 a0_4, .int .i64 a0_5, .slice A6 l0_6.length c6, .slice A7 l0_7.length c7, .slice A8 l0_8.length c8, .slice A9 l0_9.length c9] 30)).alloc (.cells #[.int .i64 a0_0, .int .i64 a0_1, .int .i64 a0_2, .int .i64 a0_3, .int .i64 a0_4, .int .i64 a0_5] 25)) = w2 at hb bs bc ⊢
        have HB2 := Aside0.mk hb
        have BS2 := Aside0.mk bs
        have BC2 := Aside0.mk bc
        clear hb bs bc
        have ks2_6 : World.cell? w2 ⟨w.heap.size, 6, none⟩ = some (.slice A6 l0_6.length c6) := (blk_cell BS2.out 6).trans rfl
        have ks2_7 : World.cell? w2 ⟨w.heap.size, 7, none⟩ = some (.slice A7 l0_7.length c7) := (blk_cell BS2.out 7).trans rfl
        have ks2_8 : World.cell? w2 ⟨w.heap.size, 8, none⟩ = some (.slice A8 l0_8.length c8) := (blk_cell BS2.out 8).trans rfl
        have ks2_9 : World.cell? w2 ⟨w.heap.size, 9, none⟩ = some (.slice A9 l0_9.length c9) := (blk_cell BS2.out 9).trans rfl
        have kc2_0 : World.cell? w2 ⟨w.heap.size + 1, 0, none⟩ = some (.int .i64 a0_0) := (blk_cell BC2.out 0).trans rfl
        have kc2_1 : World.cell? w2 ⟨w.heap.size + 1, 1, none⟩ = some (.int .i64 a0_1) := (blk_cell BC2.out 1).trans rfl
        have kc2_2 : World.cell? w2 ⟨w.heap.size + 1, 2, none⟩ = some (.int .i64 a0_2) := (blk_cell BC2.out 2).trans rfl
        have kc2_3 : World.cell? w2 ⟨w.heap.size + 1, 3, none⟩ = some (.int .i64 a0_3) := (blk_cell BC2.out 3).trans rfl
        have kc2_4 : World.cell? w2 ⟨w.heap.size + 1, 4, none⟩ = some (.int .i64 a0_4) := (blk_cell BC2.out 4).trans rfl
        have kc2_5 : World.cell? w2 ⟨w.heap.size + 1, 5, none⟩ = some (.int .i64 a0_5) := (blk_cell BC2.out 5).trans rfl
        go_wp2_with (first | (go_at_call 34; refine (G34.out w2).mono ?_; rintro e w3 ⟨rfl, hb⟩; have HB3 := Aside0.mk (below_step HB2.out hb); have BS3 := Aside0.mk (blk_below BS2.out hb); have BC3 := Aside0.mk (blk_below BC2.out hb); clear hb; clear ks2_6 ks2_7 ks2_8 ks2_9 kc2_0 kc2_1 kc2_2 kc2_3 kc2_4 kc2_5; have ks3_6 : World.cell? w3 ⟨w.heap.size, 6, none⟩ = some (.slice A6 l0_6.length c6) := (blk_cell BS3.out 6).trans rfl; have ks3_7 : World.cell? w3 ⟨w.heap.size, 7, none⟩ = some (.slice A7 l0_7.length c7) := (blk_cell BS3.out 7).trans rfl; have ks3_8 : World.cell? w3 ⟨w.heap.size, 8, none⟩ = some (.slice A8 l0_8.length c8) := (blk_cell BS3.out 8).trans rfl; have ks3_9 : World.cell? w3 ⟨w.heap.size, 9, none⟩ = some (.slice A9 l0_9.length c9) := (blk_cell BS3.out 9).trans rfl; have kc3_0 : World.cell? w3 ⟨w.heap.size + 1, 0, none⟩ = some (.int .i64 a0_0) := (blk_cell BC3.out 0).trans rfl; have kc3_1 : World.cell? w3 ⟨w.heap.size + 1, 1, none⟩ = some (.int .i64 a0_1) := (blk_cell BC3.out 1).trans rfl; have kc3_2 : World.cell? w3 ⟨w.heap.size + 1, 2, none⟩ = some (.int .i64 a0_2) := (blk_cell BC3.out 2).trans rfl; have kc3_3 : World.cell? w3 ⟨w.heap.size + 1, 3, none⟩ = some (.int .i64 a0_3) := (blk_cell BC3.out 3).trans rfl; have kc3_4 : World.cell? w3 ⟨w.heap.size + 1, 4, none⟩ = some (.int .i64 a0_4) := (blk_cell BC3.out 4).trans rfl; have kc3_5 : World.cell? w3 ⟨w.heap.size + 1, 5, none⟩ = some (.int .i64 a0_5) := (blk_cell BC3.out 5).trans rfl) | (go_at_call 35; refine (G35.out w3 HB3.out).mono ?_; rintro e w4 ⟨rfl, hb⟩; have HB4 := Aside0.mk (below_step HB3.out hb); have BS4 := Aside0.mk (blk_below BS3.out hb); have BC4 := Aside0.mk (blk_below BC3.out hb); clear hb; clear ks3_6 ks3_7 ks3_8 ks3_9 kc3_0 kc3_1 kc3_2 kc3_3 kc3_4 kc3_5; have ks4_6 : World.cell? w4 ⟨w.heap.size, 6, none⟩ = some (.slice A6 l0_6.length c6) := (blk_cell BS4.out 6).trans rfl; have ks4_7 : World.cell? w4 ⟨w.heap.size, 7, none⟩ = some (.slice A7 l0_7.length c7) := (blk_cell BS4.out 7).trans rfl; have ks4_8 : World.cell? w4 ⟨w.heap.size, 8, none⟩ = some (.slice A8 l0_8.length c8) := (blk_cell BS4.out 8).trans rfl; have ks4_9 : World.cell? w4 ⟨w.heap.size, 9, none⟩ = some (.slice A9 l0_9.length c9) := (blk_cell BS4.out 9).trans rfl; have kc4_0 : World.cell? w4 ⟨w.heap.size + 1, 0, none⟩ = some (.int .i64 a0_0) := (blk_cell BC4.out 0).trans rfl; have kc4_1 : World.cell? w4 ⟨w.heap.size + 1, 1, none⟩ = some (.int .i64 a0_1) := (blk_cell BC4.out 1).trans rfl; have kc4_2 : World.cell? w4 ⟨w.heap.size + 1, 2, none⟩ = some (.int .i64 a0_2) := (blk_cell BC4.out 2).trans rfl; have kc4_3 : World.cell? w4 ⟨w.heap.size + 1, 3, none⟩ = some (.int .i64 a0_3) := (blk_cell BC4.out 3).trans rfl; have kc4_4 : World.cell? w4 ⟨w.heap.size + 1, 4, none⟩ = some (.int .i64 a0_4) := (blk_cell BC4.out 4).trans rfl; have kc4_5 : World.cell? w4 ⟨w.heap.size + 1, 5, none⟩ = some (.int .i64 a0_5) := (blk_cell BC4.out 5).trans rfl) | (go_at_call 36; refine (G36.out w4 HB4.out).mono ?_; rintro e w5 ⟨rfl, hb⟩; have HB5 := Aside0.mk (below_step HB4.out hb); have BS5 := Aside0.mk (blk_below BS4.out hb); have BC5 := Aside0.mk (blk_below BC4.out hb); clear hb; clear ks4_6 ks4_7 ks4_8 ks4_9 kc4_0 kc4_1 kc4_2 kc4_3 kc4_4 kc4_5; have ks5_6 : World.cell? w5 ⟨w.heap.size, 6, none⟩ = some (.slice A6 l0_6.length c6) := (blk_cell BS5.out 6).trans rfl; have ks5_7 : World.cell? w5 ⟨w.heap.size, 7, none⟩ = some (.slice A7 l0_7.length c7) := (blk_cell BS5.out 7).trans rfl; have ks5_8 : World.cell? w5 ⟨w.heap.size, 8, none⟩ = some (.slice A8 l0_8.length c8) := (blk_cell BS5.out 8).trans rfl; have ks5_9 : World.cell? w5 ⟨w.heap.size, 9, none⟩ = some (.slice A9 l0_9.length c9) := (blk_cell BS5.out 9).trans rfl; have kc5_0 : World.cell? w5 ⟨w.heap.size + 1, 0, none⟩ = some (.int .i64 a0_0) := (blk_cell BC5.out 0).trans rfl; have kc5_1 : World.cell? w5 ⟨w.heap.size + 1, 1, none⟩ = some (.int .i64 a0_1) := (blk_cell BC5.out 1).trans rfl; have kc5_2 : World.cell? w5 ⟨w.heap.size + 1, 2, none⟩ = some (.int .i64 a0_2) := (blk_cell BC5.out 2).trans rfl; have kc5_3 : World.cell? w5 ⟨w.heap.size + 1, 3, none⟩ = some (.int .i64 a0_3) := (blk_cell BC5.out 3).trans rfl; have kc5_4 : World.cell? w5 ⟨w.heap.size + 1, 4, none⟩ = some (.int .i64 a0_4) := (blk_cell BC5.out 4).trans rfl; have kc5_5 : World.cell? w5 ⟨w.heap.size + 1, 5, none⟩ = some (.int .i64 a0_5) := (blk_cell BC5.out 5).trans rfl))
        go_ret
        exact ⟨by simp, HB5.out⟩
      | true =>
        cases b37 with
        | false =>
          have E : Aside0 ((true && decide ((l0_6.length : Int) = a0_0) && decide (wrap64 (2 * a0_0) ≤ a0_2) && true && decide ((l0_8.length : Int) = a0_1) && decide ((l0_7.length : Int) ≤ 255) && true && false) = false) := ⟨by rw [g_len6, g_rec, g_len8, g_len7]; simp⟩
          rw [E.out]
          go_enter Try.func17, Try.ntmps17
          go_upto_region 2 with (fail)
          have hb := below_alloc (below_alloc (Below.refl w.heap.size w) (.cells #[.int .i64 a0_0, .int .i64 a0_1, .int .i64 a0_2, .int .i64 a0_3, .int .i64 a0_4, .int .i64 a0_5, .slice A6 l0_6.length c6, .slice A7 l0_7.length c7, .slice A8 l0_8.length c8, .slice A9 l0_9.length c9] 30)) (.cells #[.int .i64 a0_0, .int .i64 a0_1, .int .i64 a0_2, .int .i64 a0_3, .int .i64 a0_4, .int .i64 a0_5] 25)
          have bs : ((w.alloc (.cells #[.int .i64 a0_0, .int .i64 a0_1, .int .i64 a0_2, .int .i64 a0_3, .int .i64 a0_4, .int .i64 a0_5, .slice A6 l0_6.length c6, .slice A7 l0_7.length c7, .slice A8 l0_8.length c8, .slice A9 l0_9.length c9] 30)).alloc (.cells #[.int .i64 a0_0, .int .i64 a0_1, .int .i64 a0_2, .int .i64 a0_3, .int .i64 a0_4, .int .i64 a0_5] 25)).heap[w.heap.size]? = some (.cells #[.int .i64 a0_0, .int .i64 a0_1, .int .i64 a0_2, .int .i64 a0_3, .int .i64 a0_4, .int .i64 a0_5, .slice A6 l0_6.length c6, .slice A7 l0_7.length c7, .slice A8 l0_8.length c8, .slice A9 l0_9.length c9] 30 (0, 0)) := new_blk1 w _ _
          have bc : ((w.alloc (.cells #[.int .i64 a0_0, .int .i64 a0_1, .int .i64 a0_2, .int .i64 a0_3, .int .i64 a0_4, .int .i64 a0_5, .slice A6 l0_6.length c6, .slice A7 l0_7.length c7, .slice A8 l0_8.length c8, .slice A9 l0_9.length c9] 30)).alloc (.cells #[.int .i64 a0_0, .int .i64 a0_1, .int .i64 a0_2, .int .i64 a0_3, .int .i64 a0_4, .int .i64 a0_5] 25)).heap[w.heap.size + 1]? = some (.cells #[.int .i64 a0_0, .int .i64 a0_1, .int .i64 a0_2, .int .i64 a0_3, .int .i64 a0_4, .int .i64 a0_5] 25 (0, 0)) := new_blk2 w _ _
          generalize ((w.alloc (.cells #[.int .i64 a0_0, .int .i64 a0_1, .int .i64 a0_2, .int .i64 a0_3, .int .i64 a0_4, .int .i64 a0_5, .slice A6 l0_6.length c6, .slice A7 l0_7.length c7, .slice A8 l0_8.length c8, .slice A9 l0_9.length c9] 30)).alloc (.cells #[.int .i64 a0_0, .int .i64 a0_1, .int .i64 a0_2, .int .i64 a0_3, .int .i64 a0_4, .int .i64 a0_5] 25)) = w2 at hb bs bc ⊢
          have HB2 := Aside0.mk hb
          have BS2 := Aside0.mk bs
          have BC2 := Aside0.mk bc
          clear hb bs bc
          have ks2_6 : World.cell? w2 ⟨w.heap.size, 6, none⟩ = some (.slice A6 l0_6.length c6) := (blk_cell BS2.out 6).trans rfl
          have ks2_7 : World.cell? w2 ⟨w.heap.size, 7, none⟩ = some (.slice A7 l0_7.length c7) := (blk_cell BS2.out 7).trans rfl
          have ks2_8 : World.cell? w2 ⟨w.heap.size, 8, none⟩ = some (.slice A8 l0_8.length c8) := (blk_cell BS2.out 8).trans rfl
          have ks2_9 : World.cell? w2 ⟨w.heap.size, 9, none⟩ = some (.slice A9 l0_9.length c9) := (blk_cell BS2.out 9).trans rfl
          have kc2_0 : World.cell? w2 ⟨w.heap.size + 1, 0, none⟩ = some (.int .i64 a0_0) := (blk_cell BC2.out 0).trans rfl
          have kc2_1 : World.cell? w2 ⟨w.heap.size + 1, 1, none⟩ = some (.int .i64 a0_1) := (blk_cell BC2.out 1).trans rfl
          have kc2_2 : World.cell? w2 ⟨w.heap.size + 1, 2, none⟩ = some (.int .i64 a0_2) := (blk_cell BC2.out 2).trans rfl
          have kc2_3 : World.cell? w2 ⟨w.heap.size + 1, 3, none⟩ = some (.int .i64 a0_3) := (blk_cell BC2.out 3).trans rfl
          have kc2_4 : World.cell? w2 ⟨w.heap.size + 1, 4, none⟩ = some (.int .i64 a0_4) := (blk_cell BC2.out 4).trans rfl
          have kc2_5 : World.cell? w2 ⟨w.heap.size + 1, 5, none⟩ = some (.int .i64 a0_5) := (blk_cell BC2.out 5).trans rfl
          go_wp2_with (first | (go_at_call 34; refine (G34.out w2).mono ?_; rintro e w3 ⟨rfl, hb⟩; have HB3 := Aside0.mk (below_step HB2.out hb); have BS3 := Aside0.mk (blk_below BS2.out hb); have BC3 := Aside0.mk (blk_below BC2.out hb); clear hb; clear ks2_6 ks2_7 ks2_8 ks2_9 kc2_0 kc2_1 kc2_2 kc2_3 kc2_4 kc2_5; have ks3_6 : World.cell? w3 ⟨w.heap.size, 6, none⟩ = some (.slice A6 l0_6.length c6) := (blk_cell BS3.out 6).trans rfl; have ks3_7 : World.cell? w3 ⟨w.heap.size, 7, none⟩ = some (.slice A7 l0_7.length c7) := (blk_cell BS3.out 7).trans rfl; have ks3_8 : World.cell? w3 ⟨w.heap.size, 8, none⟩ = some (.slice A8 l0_8.length c8) := (blk_cell BS3.out 8).trans rfl; have ks3_9 : World.cell? w3 ⟨w.heap.size, 9, none⟩ = some (.slice A9 l0_9.length c9) := (blk_cell BS3.out 9).trans rfl; have kc3_0 : World.cell? w3 ⟨w.heap.size + 1, 0, none⟩ = some (.int .i64 a0_0) := (blk_cell BC3.out 0).trans rfl; have kc3_1 : World.cell? w3 ⟨w.heap.size + 1, 1, none⟩ = some (.int .i64 a0_1) := (blk_cell BC3.out 1).trans rfl; have kc3_2 : World.cell? w3 ⟨w.heap.size + 1, 2, none⟩ = some (.int .i64 a0_2) := (blk_cell BC3.out 2).trans rfl; have kc3_3 : World.cell? w3 ⟨w.heap.size + 1, 3, none⟩ = some (.int .i64 a0_3) := (blk_cell BC3.out 3).trans rfl; have kc3_4 : World.cell? w3 ⟨w.heap.size + 1, 4, none⟩ = some (.int .i64 a0_4) := (blk_cell BC3.out 4).trans rfl; have kc3_5 : World.cell? w3 ⟨w.heap.size + 1, 5, none⟩ = some (.int .i64 a0_5) := (blk_cell BC3.out 5).trans rfl) | (go_at_call 35; refine (G35.out w3 HB3.out).mono ?_; rintro e w4 ⟨rfl, hb⟩; have HB4 := Aside0.mk (below_step HB3.out hb); have BS4 := Aside0.mk (blk_below BS3.out hb); have BC4 := Aside0.mk (blk_below BC3.out hb); clear hb; clear ks3_6 ks3_7 ks3_8 ks3_9 kc3_0 kc3_1 kc3_2 kc3_3 kc3_4 kc3_5; have ks4_6 : World.cell? w4 ⟨w.heap.size, 6, none⟩ = some (.slice A6 l0_6.length c6) := (blk_cell BS4.out 6).trans rfl; have ks4_7 : World.cell? w4 ⟨w.heap.size, 7, none⟩ = some (.slice A7 l0_7.length c7) := (blk_cell BS4.out 7).trans rfl; have ks4_8 : World.cell? w4 ⟨w.heap.size, 8, none⟩ = some (.slice A8 l0_8.length c8) := (blk_cell BS4.out 8).trans rfl; have ks4_9 : World.cell? w4 ⟨w.heap.size, 9, none⟩ = some (.slice A9 l0_9.length c9) := (blk_cell BS4.out 9).trans rfl; have kc4_0 : World.cell? w4 ⟨w.heap.size + 1, 0, none⟩ = some (.int .i64 a0_0) := (blk_cell BC4.out 0).trans rfl; have kc4_1 : World.cell? w4 ⟨w.heap.size + 1, 1, none⟩ = some (.int .i64 a0_1) := (blk_cell BC4.out 1).trans rfl; have kc4_2 : World.cell? w4 ⟨w.heap.size + 1, 2, none⟩ = some (.int .i64 a0_2) := (blk_cell BC4.out 2).trans rfl; have kc4_3 : World.cell? w4 ⟨w.heap.size + 1, 3, none⟩ = some (.int .i64 a0_3) := (blk_cell BC4.out 3).trans rfl; have kc4_4 : World.cell? w4 ⟨w.heap.size + 1, 4, none⟩ = some (.int .i64 a0_4) := (blk_cell BC4.out 4).trans rfl; have kc4_5 : World.cell? w4 ⟨w.heap.size + 1, 5, none⟩ = some (.int .i64 a0_5) := (blk_cell BC4.out 5).trans rfl) | (go_at_call 36; refine (G36.out w4 HB4.out).mono ?_; rintro e w5 ⟨rfl, hb⟩; have HB5 := Aside0.mk (below_step HB4.out hb); have BS5 := Aside0.mk (blk_below BS4.out hb); have BC5 := Aside0.mk (blk_below BC4.out hb); clear hb; clear ks4_6 ks4_7 ks4_8 ks4_9 kc4_0 kc4_1 kc4_2 kc4_3 kc4_4 kc4_5; have ks5_6 : World.cell? w5 ⟨w.heap.size, 6, none⟩ = some (.slice A6 l0_6.length c6) := (blk_cell BS5.out 6).trans rfl; have ks5_7 : World.cell? w5 ⟨w.heap.size, 7, none⟩ = some (.slice A7 l0_7.length c7) := (blk_cell BS5.out 7).trans rfl; have ks5_8 : World.cell? w5 ⟨w.heap.size, 8, none⟩ = some (.slice A8 l0_8.length c8) := (blk_cell BS5.out 8).trans rfl; have ks5_9 : World.cell? w5 ⟨w.heap.size, 9, none⟩ = some (.slice A9 l0_9.length c9) := (blk_cell BS5.out 9).trans rfl; have kc5_0 : World.cell? w5 ⟨w.heap.size + 1, 0, none⟩ = some (.int .i64 a0_0) := (blk_cell BC5.out 0).trans rfl; have kc5_1 : World.cell? w5 ⟨w.heap.size + 1, 1, none⟩ = some (.int .i64 a0_1) := (blk_cell BC5.out 1).trans rfl; have kc5_2 : World.cell? w5 ⟨w.heap.size + 1, 2, none⟩ = some (.int .i64 a0_2) := (blk_cell BC5.out 2).trans rfl; have kc5_3 : World.cell? w5 ⟨w.heap.size + 1, 3, none⟩ = some (.int .i64 a0_3) := (blk_cell BC5.out 3).trans rfl; have kc5_4 : World.cell? w5 ⟨w.heap.size + 1, 4, none⟩ = some (.int .i64 a0_4) := (blk_cell BC5.out 4).trans rfl; have kc5_5 : World.cell? w5 ⟨w.heap.size + 1, 5, none⟩ = some (.int .i64 a0_5) := (blk_cell BC5.out 5).trans rfl) | (go_at_call 37; refine (G37.out w5 HB5.out kc5_0).mono ?_; rintro e w6 ⟨rfl, hb⟩; have HB6 := Aside0.mk (below_step HB5.out hb); have BS6 := Aside0.mk (blk_below BS5.out hb); have BC6 := Aside0.mk (blk_below BC5.out hb); clear hb; clear ks5_6 ks5_7 ks5_8 ks5_9 kc5_0 kc5_1 kc5_2 kc5_3 kc5_4 kc5_5; have ks6_6 : World.cell? w6 ⟨w.heap.size, 6, none⟩ = some (.slice A6 l0_6.length c6) := (blk_cell BS6.out 6).trans rfl; have ks6_7 : World.cell? w6 ⟨w.heap.size, 7, none⟩ = some (.slice A7 l0_7.length c7) := (blk_cell BS6.out 7).trans rfl; have ks6_8 : World.cell? w6 ⟨w.heap.size, 8, none⟩ = some (.slice A8 l0_8.length c8) := (blk_cell BS6.out 8).trans rfl; have ks6_9 : World.cell? w6 ⟨w.heap.size, 9, none⟩ = some (.slice A9 l0_9.length c9) := (blk_cell BS6.out 9).trans rfl; have kc6_0 : World.cell? w6 ⟨w.heap.size + 1, 0, none⟩ = some (.int .i64 a0_0) := (blk_cell BC6.out 0).trans rfl; have kc6_1 : World.cell? w6 ⟨w.heap.size + 1, 1, none⟩ = some (.int .i64 a0_1) := (blk_cell BC6.out 1).trans rfl; have kc6_2 : World.cell? w6 ⟨w.heap.size + 1, 2, none⟩ = some (.int .i64 a0_2) := (blk_cell BC6.out 2).trans rfl; have kc6_3 : World.cell? w6 ⟨w.heap.size + 1, 3, none⟩ = some (.int .i64 a0_3) := (blk_cell BC6.out 3).trans rfl; have kc6_4 : World.cell? w6 ⟨w.heap.size + 1, 4, none⟩ = some (.int .i64 a0_4) := (blk_cell BC6.out 4).trans rfl; have kc6_5 : World.cell? w6 ⟨w.heap.size + 1, 5, none⟩ = some (.int .i64 a0_5) := (blk_cell BC6.out 5).trans rfl))
          go_ret
          exact ⟨by simp, HB6.out⟩
        | true =>
          have E : Aside0 ((true && decide ((l0_6.length : Int) = a0_0) && decide (wrap64 (2 * a0_0) ≤ a0_2) && true && decide ((l0_8.length : Int) = a0_1) && decide ((l0_7.length : Int) ≤ 255) && true && true) = true) := ⟨by rw [g_len6, g_rec, g_len8, g_len7]; simp⟩
          rw [E.out]
          go_enter Try.func17, Try.ntmps17
          go_upto_region 2 with (fail)
          have hb := below_alloc (below_alloc (Below.refl w.heap.size w) (.cells #[.int .i64 a0_0, .int .i64 a0_1, .int .i64 a0_2, .int .i64 a0_3, .int .i64 a0_4, .int .i64 a0_5, .slice A6 l0_6.length c6, .slice A7 l0_7.length c7, .slice A8 l0_8.length c8, .slice A9 l0_9.length c9] 30)) (.cells #[.int .i64 a0_0, .int .i64 a0_1, .int .i64 a0_2, .int .i64 a0_3, .int .i64 a0_4, .int .i64 a0_5] 25)
          have bs : ((w.alloc (.cells #[.int .i64 a0_0, .int .i64 a0_1, .int .i64 a0_2, .int .i64 a0_3, .int .i64 a0_4, .int .i64 a0_5, .slice A6 l0_6.length c6, .slice A7 l0_7.length c7, .slice A8 l0_8.length c8, .slice A9 l0_9.length c9] 30)).alloc (.cells #[.int .i64 a0_0, .int .i64 a0_1, .int .i64 a0_2, .int .i64 a0_3, .int .i64 a0_4, .int .i64 a0_5] 25)).heap[w.heap.size]? = some (.cells #[.int .i64 a0_0, .int .i64 a0_1, .int .i64 a0_2, .int .i64 a0_3, .int .i64 a0_4, .int .i64 a0_5, .slice A6 l0_6.length c6, .slice A7 l0_7.length c7, .slice A8 l0_8.length c8, .slice A9 l0_9.length c9] 30 (0, 0)) := new_blk1 w _ _
          have bc : ((w.alloc (.cells #[.int .i64 a0_0, .int .i64 a0_1, .int .i64 a0_2, .int .i64 a0_3, .int .i64 a0_4, .int .i64 a0_5, .slice A6 l0_6.length c6, .slice A7 l0_7.length c7, .slice A8 l0_8.length c8, .slice A9 l0_9.length c9] 30)).alloc (.cells #[.int .i64 a0_0, .int .i64 a0_1, .int .i64 a0_2, .int .i64 a0_3, .int .i64 a0_4, .int .i64 a0_5] 25)).heap[w.heap.size + 1]? = some (.cells #[.int .i64 a0_0, .int .i64 a0_1, .int .i64 a0_2, .int .i64 a0_3, .int .i64 a0_4, .int .i64 a0_5] 25 (0, 0)) := new_blk2 w _ _
          generalize ((w.alloc (.cells #[.int .i64 a0_0, .int .i64 a0_1, .int .i64 a0_2, .int .i64 a0_3, .int .i64 a0_4, .int .i64 a0_5, .slice A6 l0_6.length c6, .slice A7 l0_7.length c7, .slice A8 l0_8.length c8, .slice A9 l0_9.length c9] 30)).alloc (.cells #[.int .i64 a0_0, .int .i64 a0_1, .int .i64 a0_2, .int .i64 a0_3, .int .i64 a0_4, .int .i64 a0_5] 25)) = w2 at hb bs bc ⊢
          have HB2 := Aside0.mk hb
          have BS2 := Aside0.mk bs
          have BC2 := Aside0.mk bc
          clear hb bs bc
          have ks2_6 : World.cell? w2 ⟨w.heap.size, 6, none⟩ = some (.slice A6 l0_6.length c6) := (blk_cell BS2.out 6).trans rfl
          have ks2_7 : World.cell? w2 ⟨w.heap.size, 7, none⟩ = some (.slice A7 l0_7.length c7) := (blk_cell BS2.out 7).trans rfl
          have ks2_8 : World.cell? w2 ⟨w.heap.size, 8, none⟩ = some (.slice A8 l0_8.length c8) := (blk_cell BS2.out 8).trans rfl
          have ks2_9 : World.cell? w2 ⟨w.heap.size, 9, none⟩ = some (.slice A9 l0_9.length c9) := (blk_cell BS2.out 9).trans rfl
          have kc2_0 : World.cell? w2 ⟨w.heap.size + 1, 0, none⟩ = some (.int .i64 a0_0) := (blk_cell BC2.out 0).trans rfl
          have kc2_1 : World.cell? w2 ⟨w.heap.size + 1, 1, none⟩ = some (.int .i64 a0_1) := (blk_cell BC2.out 1).trans rfl
          have kc2_2 : World.cell? w2 ⟨w.heap.size + 1, 2, none⟩ = some (.int .i64 a0_2) := (blk_cell BC2.out 2).trans rfl
          have kc2_3 : World.cell? w2 ⟨w.heap.size + 1, 3, none⟩ = some (.int .i64 a0_3) := (blk_cell BC2.out 3).trans rfl
          have kc2_4 : World.cell? w2 ⟨w.heap.size + 1, 4, none⟩ = some (.int .i64 a0_4) := (blk_cell BC2.out 4).trans rfl
          have kc2_5 : World.cell? w2 ⟨w.heap.size + 1, 5, none⟩ = some (.int .i64 a0_5) := (blk_cell BC2.out 5).trans rfl
          go_wp2_with (first | (go_at_call 34; refine (G34.out w2).mono ?_; rintro e w3 ⟨rfl, hb⟩; have HB3 := Aside0.mk (below_step HB2.out hb); have BS3 := Aside0.mk (blk_below BS2.out hb); have BC3 := Aside0.mk (blk_below BC2.out hb); clear hb; clear ks2_6 ks2_7 ks2_8 ks2_9 kc2_0 kc2_1 kc2_2 kc2_3 kc2_4 kc2_5; have ks3_6 : World.cell? w3 ⟨w.heap.size, 6, none⟩ = some (.slice A6 l0_6.length c6) := (blk_cell BS3.out 6).trans rfl; have ks3_7 : World.cell? w3 ⟨w.heap.size, 7, none⟩ = some (.slice A7 l0_7.length c7) := (blk_cell BS3.out 7).trans rfl; have ks3_8 : World.cell? w3 ⟨w.heap.size, 8, none⟩ = some (.slice A8 l0_8.length c8) := (blk_cell BS3.out 8).trans rfl; have ks3_9 : World.cell? w3 ⟨w.heap.size, 9, none⟩ = some (.slice A9 l0_9.length c9) := (blk_cell BS3.out 9).trans rfl; have kc3_0 : World.cell? w3 ⟨w.heap.size + 1, 0, none⟩ = some (.int .i64 a0_0) := (blk_cell BC3.out 0).trans rfl; have kc3_1 : World.cell? w3 ⟨w.heap.size + 1, 1, none⟩ = some (.int .i64 a0_1) := (blk_cell BC3.out 1).trans rfl; have kc3_2 : World.cell? w3 ⟨w.heap.size + 1, 2, none⟩ = some (.int .i64 a0_2) := (blk_cell BC3.out 2).trans rfl; have kc3_3 : World.cell? w3 ⟨w.heap.size + 1, 3, none⟩ = some (.int .i64 a0_3) := (blk_cell BC3.out 3).trans rfl; have kc3_4 : World.cell? w3 ⟨w.heap.size + 1, 4, none⟩ = some (.int .i64 a0_4) := (blk_cell BC3.out 4).trans rfl; have kc3_5 : World.cell? w3 ⟨w.heap.size + 1, 5, none⟩ = some (.int .i64 a0_5) := (blk_cell BC3.out 5).trans rfl) | (go_at_call 35; refine (G35.out w3 HB3.out).mono ?_; rintro e w4 ⟨rfl, hb⟩; have HB4 := Aside0.mk (below_step HB3.out hb); have BS4 := Aside0.mk (blk_below BS3.out hb); have BC4 := Aside0.mk (blk_below BC3.out hb); clear hb; clear ks3_6 ks3_7 ks3_8 ks3_9 kc3_0 kc3_1 kc3_2 kc3_3 kc3_4 kc3_5; have ks4_6 : World.cell? w4 ⟨w.heap.size, 6, none⟩ = some (.slice A6 l0_6.length c6) := (blk_cell BS4.out 6).trans rfl; have ks4_7 : World.cell? w4 ⟨w.heap.size, 7, none⟩ = some (.slice A7 l0_7.length c7) := (blk_cell BS4.out 7).trans rfl; have ks4_8 : World.cell? w4 ⟨w.heap.size, 8, none⟩ = some (.slice A8 l0_8.length c8) := (blk_cell BS4.out 8).trans rfl; have ks4_9 : World.cell? w4 ⟨w.heap.size, 9, none⟩ = some (.slice A9 l0_9.length c9) := (blk_cell BS4.out 9).trans rfl; have kc4_0 : World.cell? w4 ⟨w.heap.size + 1, 0, none⟩ = some (.int .i64 a0_0) := (blk_cell BC4.out 0).trans rfl; have kc4_1 : World.cell? w4 ⟨w.heap.size + 1, 1, none⟩ = some (.int .i64 a0_1) := (blk_cell BC4.out 1).trans rfl; have kc4_2 : World.cell? w4 ⟨w.heap.size + 1, 2, none⟩ = some (.int .i64 a0_2) := (blk_cell BC4.out 2).trans rfl; have kc4_3 : World.cell? w4 ⟨w.heap.size + 1, 3, none⟩ = some (.int .i64 a0_3) := (blk_cell BC4.out 3).trans rfl; have kc4_4 : World.cell? w4 ⟨w.heap.size + 1, 4, none⟩ = some (.int .i64 a0_4) := (blk_cell BC4.out 4).trans rfl; have kc4_5 : World.cell? w4 ⟨w.heap.size + 1, 5, none⟩ = some (.int .i64 a0_5) := (blk_cell BC4.out 5).trans rfl) | (go_at_call 36; refine (G36.out w4 HB4.out).mono ?_; rintro e w5 ⟨rfl, hb⟩; have HB5 := Aside0.mk (below_step HB4.out hb); have BS5 := Aside0.mk (blk_below BS4.out hb); have BC5 := Aside0.mk (blk_below BC4.out hb); clear hb; clear ks4_6 ks4_7 ks4_8 ks4_9 kc4_0 kc4_1 kc4_2 kc4_3 kc4_4 kc4_5; have ks5_6 : World.cell? w5 ⟨w.heap.size, 6, none⟩ = some (.slice A6 l0_6.length c6) := (blk_cell BS5.out 6).trans rfl; have ks5_7 : World.cell? w5 ⟨w.heap.size, 7, none⟩ = some (.slice A7 l0_7.length c7) := (blk_cell BS5.out 7).trans rfl; have ks5_8 : World.cell? w5 ⟨w.heap.size, 8, none⟩ = some (.slice A8 l0_8.length c8) := (blk_cell BS5.out 8).trans rfl; have ks5_9 : World.cell? w5 ⟨w.heap.size, 9, none⟩ = some (.slice A9 l0_9.length c9) := (blk_cell BS5.out 9).trans rfl; have kc5_0 : World.cell? w5 ⟨w.heap.size + 1, 0, none⟩ = some (.int .i64 a0_0) := (blk_cell BC5.out 0).trans rfl; have kc5_1 : World.cell? w5 ⟨w.heap.size + 1, 1, none⟩ = some (.int .i64 a0_1) := (blk_cell BC5.out 1).trans rfl; have kc5_2 : World.cell? w5 ⟨w.heap.size + 1, 2, none⟩ = some (.int .i64 a0_2) := (blk_cell BC5.out 2).trans rfl; have kc5_3 : World.cell? w5 ⟨w.heap.size + 1, 3, none⟩ = some (.int .i64 a0_3) := (blk_cell BC5.out 3).trans rfl; have kc5_4 : World.cell? w5 ⟨w.heap.size + 1, 4, none⟩ = some (.int .i64 a0_4) := (blk_cell BC5.out 4).trans rfl; have kc5_5 : World.cell? w5 ⟨w.heap.size + 1, 5, none⟩ = some (.int .i64 a0_5) := (blk_cell BC5.out 5).trans rfl) | (go_at_call 37; refine (G37.out w5 HB5.out kc5_0).mono ?_; rintro e w6 ⟨rfl, hb⟩; have HB6 := Aside0.mk (below_step HB5.out hb); have BS6 := Aside0.mk (blk_below BS5.out hb); have BC6 := Aside0.mk (blk_below BC5.out hb); clear hb; clear ks5_6 ks5_7 ks5_8 ks5_9 kc5_0 kc5_1 kc5_2 kc5_3 kc5_4 kc5_5; have ks6_6 : World.cell? w6 ⟨w.heap.size, 6, none⟩ = some (.slice A6 l0_6.length c6) := (blk_cell BS6.out 6).trans rfl; have ks6_7 : World.cell? w6 ⟨w.heap.size, 7, none⟩ = some (.slice A7 l0_7.length c7) := (blk_cell BS6.out 7).trans rfl; have ks6_8 : World.cell? w6 ⟨w.heap.size, 8, none⟩ = some (.slice A8 l0_8.length c8) := (blk_cell BS6.out 8).trans rfl; have ks6_9 : World.cell? w6 ⟨w.heap.size, 9, none⟩ = some (.slice A9 l0_9.length c9) := (blk_cell BS6.out 9).trans rfl; have kc6_0 : World.cell? w6 ⟨w.heap.size + 1, 0, none⟩ = some (.int .i64 a0_0) := (blk_cell BC6.out 0).trans rfl; have kc6_1 : World.cell? w6 ⟨w.heap.size + 1, 1, none⟩ = some (.int .i64 a0_1) := (blk_cell BC6.out 1).trans rfl; have kc6_2 : World.cell? w6 ⟨w.heap.size + 1, 2, none⟩ = some (.int .i64 a0_2) := (blk_cell BC6.out 2).trans rfl; have kc6_3 : World.cell? w6 ⟨w.heap.size + 1, 3, none⟩ = some (.int .i64 a0_3) := (blk_cell BC6.out 3).trans rfl; have kc6_4 : World.cell? w6 ⟨w.heap.size + 1, 4, none⟩ = some (.int .i64 a0_4) := (blk_cell BC6.out 4).trans rfl; have kc6_5 : World.cell? w6 ⟨w.heap.size + 1, 5, none⟩ = some (.int .i64 a0_5) := (blk_cell BC6.out 5).trans rfl))
          go_ret
          exact ⟨by simp, HB6.out⟩
/-- May a script be? -/
def okS (c : S25) (f d : List Int) (a : List (List (List S80))) (p : List Int) : Bool :=
  checkB c && decide ((f.length : Int) = c.f0) && decide (wrap64 (2 * c.f0) ≤ c.f2) && f.all (small64.in (-128) 127) && decide ((a.length : Int) = c.f1) && decide ((d.length : Int) ≤ 255) && p.all (smallT.in 0 255) && a.all (txnsB c.f0)
def script_Ok.f (a0_0 a0_1 a0_2 a0_3 a0_4 a0_5 : Int) (l0_6 l0_7 : List Int) (l0_8 : List (List (List S80))) (l0_9 : List Int) : Option Bool := some (okS ⟨a0_0, a0_1, a0_2, a0_3, a0_4, a0_5⟩ l0_6 l0_7 l0_8 l0_9)
set_option maxHeartbeats 8000000 in
theorem script_Ok.calls (a0_0 a0_1 a0_2 a0_3 a0_4 a0_5 : Int) (A6 : Option Addr) (c6 : Nat) (l0_6 : List Int) (A7 : Option Addr) (c7 : Nat) (l0_7 : List Int) (A8 : Option Addr) (c8 : Nat) (l0_8 : List (List (List S80))) (A9 : Option Addr) (c9 : Nat) (l0_9 : List Int) (r : Bool) (w : World) (hr0_6 : Kd.C (Kd.int .i64) w A6 l0_6.length l0_6) (hc0_6 : l0_6.length ≤ c6) (hr0_7 : Kd.C (Kd.int .u8) w A7 l0_7.length l0_7) (hc0_7 : l0_7.length ≤ c7) (hr0_8 : Kd.C (Kd.slice 61 (Kd.slice 80 k80)) w A8 l0_8.length l0_8) (hc0_8 : l0_8.length ≤ c8) (hr0_9 : Kd.C (Kd.int .i64) w A9 l0_9.length l0_9) (hc0_9 : l0_9.length ≤ c9) (h : script_Ok.f a0_0 a0_1 a0_2 a0_3 a0_4 a0_5 l0_6 l0_7 l0_8 l0_9 = some r) :
    Calls Try.prog 17 #[.agg #[.int .i64 a0_0, .int .i64 a0_1, .int .i64 a0_2, .int .i64 a0_3, .int .i64 a0_4, .int .i64 a0_5, .slice A6 l0_6.length c6, .slice A7 l0_7.length c7, .slice A8 l0_8.length c8, .slice A9 l0_9.length c9]] w fun e w' => e = .returned (.bool r) ∧ Below w.heap.size w w' := by
  obtain rfl := Option.some.inj h
  refine okWalk a0_0 a0_1 a0_2 a0_3 a0_4 a0_5 A6 c6 l0_6 A7 c7 l0_7 A8 c8 l0_8 A9 c9 l0_9 w (checkB ⟨a0_0, a0_1, a0_2, a0_3, a0_4, a0_5⟩) (l0_6.all (small64.in (-128) 127)) (l0_9.all (smallT.in 0 255)) (l0_8.all (txnsB a0_0)) (fun W => ?_) (fun W hW => ?_) (fun W hW => ?_) (fun W hW hc => ?_) (Kd.C_max hr0_6) (Kd.C_max hr0_7) (Kd.C_max hr0_8)
  · exact (floor_Check.calls a0_0 a0_1 a0_2 a0_3 a0_4 a0_5 _ W (check_f ⟨a0_0, a0_1, a0_2, a0_3, a0_4, a0_5⟩)).mono fun e w' h => h
  · exact small64.calls (-128) 127 A6 c6 l0_6 W (Kd.C_below hr0_6 hW)
  · exact smallT.calls 0 255 A9 c9 l0_9 W (Kd.C_below hr0_9 hW)
  · exact inTx.cont (txnsB a0_0) (w.heap.size + 1) A8 c8 l0_8 W (Kd.C_below hr0_8 hW) (fun x _ A c W1 hW1 hK hl => okC.clo a0_0 a0_1 a0_2 a0_3 a0_4 a0_5 (w.heap.size + 1) x A c W1 ((hW1.cell (World.block_lt_of_cell? _ _ hc)).trans hc) hK hl)
end Go.Proofs.Ythfkgnkojhocbaa.S
end
section
namespace Go.Proofs.Ythfkgnkojhocbaa.S
open Go.RowKit Go.Proofs.YthfkgnkojhocbaaW.PrintWords Go.Proofs.YthfkgnkojhocbaaW.PrintLast Go.Proofs.YthfkgnkojhocbaaW.PrintMore
attribute [local go_sem] max2_int min2_int max_two min_two max_three min_three max_four min_four
set_option linter.unusedVariables false
set_option linter.unusedSimpArgs false
def lang_Put.l0 : Nat → List Int → List (S80) → Int → Int → Option (List Int)
  | 0, _, _, _, _ => none
  | k + 1, x3, x6, x7, x8 => if x8 < x7 then (if 0 ≤ x8 then (if x8 < (x6.length : Int) then ((some (([((rd_T80 x6 x8).f0) % 256, ((rd_T80 x6 x8).f1) % 256, ((rd_T80 x6 x8).f2) % 256] : List Int) : List Int)).bind fun y259 => (if x3.length + y259.length < 140737488355328 then (lang_Put.l0 k (x3 ++ y259) x6 x7 (wrap64 (x8 + 1))) else (none))) else (none)) else (none)) else (some x3)
def lang_Put.f (k : Nat) (l0 : List (S80)) : Option (List Int) := lang_Put.l0 k ([] : List Int) l0 (l0.length : Int) 0
theorem lang_Put.mono_l : ∀ k, (∀ y0 y1 y2 y3, LeO (lang_Put.l0 k y0 y1 y2 y3) (lang_Put.l0 (k + 1) y0 y1 y2 y3))
  | 0 => fun _ _ _ _ r h => by simp [lang_Put.l0] at h
  | k + 1 => by
    have ih0 := lang_Put.mono_l k
    · intro y0 y1 y2 y3
      unfold lang_Put.l0
      repeat' first
      | (with_reducible exact ih0 _ _ _ _)
      | (with_reducible exact LeO.refl _)
      | (with_reducible exact LeO.none _)
      | (with_reducible refine LeO.ite ?_ ?_)
      | (with_reducible refine LeO.bind ?_ (fun _ => ?_))
      | exact ih0 _ _ _ _
      | exact LeO.none _
      | refine LeO.ite ?_ ?_
      | refine LeO.bind ?_ (fun _ => ?_)
theorem lang_Put.mono : ∀ a0 k, LeO (lang_Put.f k a0) (lang_Put.f (k + 1) a0) := by
  intro a0 k
  have ih0 := lang_Put.mono_l k
  unfold lang_Put.f
  repeat' first
      | (with_reducible exact ih0 _ _ _ _)
      | (with_reducible exact LeO.refl _)
      | (with_reducible exact LeO.none _)
      | (with_reducible refine LeO.ite ?_ ?_)
      | (with_reducible refine LeO.bind ?_ (fun _ => ?_))
      | exact ih0 _ _ _ _
      | exact LeO.none _
      | refine LeO.ite ?_ ?_
      | refine LeO.bind ?_ (fun _ => ?_)
set_option maxHeartbeats 8000000 in
set_option maxRecDepth 100000 in
theorem lang_Put.calls (k : Nat) (A0 : Option Addr) (c0 : Nat) (l0 : List (S80)) (r : List Int) (w : World) (hr0 : Kd.C k80 w A0 l0.length l0) (hc0 : l0.length ≤ c0) (h : lang_Put.f k l0 = some r) :
  Calls Try.prog 33 #[.slice A0 l0.length c0] w fun e w' => ∃ v0_ : Value, e = .returned (v0_) ∧ Kd.R (Kd.int .u8) 5 w' w.heap.size (fun _ => True) v0_ r ∧ Below w.heap.size w w' := by
 have hu80 := Try.underlying80
 have HR0 := Aside0.mk hr0
 have HC0 := Aside0.mk hc0
 clear hr0 hc0
 have HB := Aside0.mk (Below.refl w.heap.size w)
 have H : (lang_Put.l0 k ([] : List Int) l0 (l0.length : Int) 0) = some r := h
 clear h
 have H' := Aside0.mk H
 clear H
 go_enter Try.func33, Try.ntmps33
 go_wp2
 go_loopg [3, 8] k (fun kq v3 v8 w' => ∃ (x3_1 : List Int) (x8_1 : Int), v8 = .int .i64 x8_1 ∧ Aside0 (lang_Put.l0 kq x3_1 l0 (l0.length : Int) x8_1 = some r) ∧ Aside0 (kq ≤ k) ∧ Aside0 (Kd.R (Kd.int .u8) 5 w' w.heap.size (fun _ => True) v3 x3_1) ∧ Aside0 (Below w.heap.size w w'))
 case atStart => exact ⟨(([] : List Int)), (0), (by first | rfl | (simp; done) | (simp [*]; done)), H', ⟨Nat.le_refl _⟩, ⟨by first | exact Kd.R_nil _ _ _ _ _ | exact Kd.N_nil _ _ _ _ _ | exact Kd.V_nil _ _ _ _ _ | exact Kd.Q_nil _ _ _ _ _ | exact Kd.S_nil _ _ _ _ _⟩, ⟨by repeat (first | (with_reducible first | exact HB.out | apply bwA | apply bwN | apply bw1) | exact HB.out)⟩⟩
 case round =>
  clear H'
  obtain ⟨x3_1, x8_1, rfl, HA, HK1, HO_3, HB⟩ := hrel
  cases gk with
  | zero => exact absurd HA.out (by simp [lang_Put.l0])
  | succ k1 =>
   have H := HA.out
   clear HA
   simp only [lang_Put.l0] at H
   by_cases c2 : x8_1 < (l0.length : Int)
   ·rw [if_pos c2] at H
    have c2b0 : decide (x8_1 < (l0.length : Int)) = true := decide_eq_true c2
    clear c2
    by_cases c3 : 0 ≤ x8_1
    ·rw [if_pos c3] at H
     have c3b0 : decide (0 ≤ x8_1) = true := decide_eq_true c3
     clear c3
     by_cases c4 : x8_1 < (l0.length : Int)
     ·rw [if_pos c4] at H
      have c4b0 : decide (x8_1 < (l0.length : Int)) = true := decide_eq_true c4
      clear c4
      obtain ⟨y259, hy259⟩ : ∃ y_ : List Int, y_ = (([((rd_T80 l0 x8_1).f0) % 256, ((rd_T80 l0 x8_1).f1) % 256, ((rd_T80 l0 x8_1).f2) % 256] : List Int)) := ⟨_, rfl⟩
      replace H : (if x3_1.length + y259.length < 140737488355328 then (lang_Put.l0 k1 (x3_1 ++ y259) l0 (l0.length : Int) (wrap64 (x8_1 + 1))) else (none)) = some r := by first | (rw [hy259]; with_reducible exact H) | (have H2_ := (Option.bind_some _ _).symm.trans H; rw [hy259]; with_reducible exact H2_) | (have H2_ := (Option.bind_some _ _).symm.trans H; with_reducible exact H2_) | with_reducible exact H | (rw [hy259]; exact H) | exact H
      have Ny259 := Aside0.mk hy259
      clear hy259
      by_cases c5 : x3_1.length + y259.length < 140737488355328
      ·rw [if_pos c5] at H
       have LMc5 := Aside0.mk c5
       clear c5
       obtain ⟨y262, hy262⟩ : ∃ y_ : List Int, y_ = (x3_1 ++ y259) := ⟨_, rfl⟩
       replace H : (lang_Put.l0 k1 y262 l0 (l0.length : Int) (wrap64 (x8_1 + 1))) = some r := by first | (rw [hy262]; with_reducible exact H) | (have H2_ := (Option.bind_some _ _).symm.trans H; rw [hy262]; with_reducible exact H2_) | (have H2_ := (Option.bind_some _ _).symm.trans H; with_reducible exact H2_) | with_reducible exact H | (rw [hy262]; exact H) | exact H
       have Ny262 := Aside0.mk hy262
       clear hy262
       have H' := Aside0.mk H
       clear H
       have p257 : 0 ≤ (x8_1 : Int) := of_decide_eq_true (by first | (with_reducible assumption) | assumption)
       have q257 : x8_1 < (l0.length : Int) := of_decide_eq_true (by first | (with_reducible assumption) | assumption)
       obtain ⟨ad257, e257, hx257_0, hx257_1, hx257_2⟩ := at_T80 HR0.out x8_1 p257 q257
       cases e257
       replace hx257_0 := (HB.out.cell (World.block_lt_of_cell? w _ hx257_0)).trans hx257_0
       replace hx257_1 := (HB.out.cell (World.block_lt_of_cell? w _ hx257_1)).trans hx257_1
       replace hx257_2 := (HB.out.cell (World.block_lt_of_cell? w _ hx257_2)).trans hx257_2
       replace p257 := eq_true p257
       replace q257 := eq_true q257
       go_wp2_with (first | ((with_reducible refine gate_dst (N := 5) rfl ?_); refine box_event ?hg (N := 5) ?hd (cs := #[.int .i64 0, .int .i64 0, .int .i64 0]) (t := 80) ?hr ?_; (case hd => rfl); (case hg => rfl); (case hr => first | (go_simp; done) | (go_simp; rfl)); intro gb258 hg w6 hbox hb; have n0_ := Aside0.mk (Kd.R_below (by (with_reducible repeat (first | apply Kd.R_alloc | apply Kd.R_drewN | apply Kd.R_drew)); exact HO_3.out) hb); have n1_ := Aside0.mk (below_step (by repeat (first | (with_reducible first | exact HB.out | apply bwA | apply bwN | apply bw1) | exact HB.out)) hb); have n2_ := Aside0.mk (hbox); have n3_ := Aside0.mk ((by rw [hg]; exact (below_size (by repeat (first | (with_reducible first | exact HB.out | apply bwA | apply bwN | apply bw1) | exact HB.out))) : w.heap.size ≤ gb258)); have n4_ := Aside0.mk ((by rw [hg]; exact (below_size (by repeat (first | (with_reducible first | exact HB.out | apply bwA | apply bwN | apply bw1) | exact HB.out))) : w.heap.size ≤ gb258)); clear HO_3; clear HB; have HO_3 := n0_; have HB := n1_; have BK258 := n2_; have GW258 := n3_; have GE258 := n4_; clear n0_ n1_ n2_ n3_ n4_; clear hb hbox hg; have hcz7_0 : w6.cell? ⟨gb258, 0, none⟩ = some (.int .i64 0) := (blk_cell BK258.out 0).trans rfl; have hcz7_1 : w6.cell? ⟨gb258, 1, none⟩ = some (.int .i64 0) := (blk_cell BK258.out 1).trans rfl; have hcz7_2 : w6.cell? ⟨gb258, 2, none⟩ = some (.int .i64 0) := (blk_cell BK258.out 2).trans rfl; have hfz7_0 := blk_frozen BK258.out 0; have hfz7_1 := blk_frozen BK258.out 1; have hfz7_2 := blk_frozen BK258.out 2) | ((with_reducible refine gate_dst (N := 22) rfl ?_); refine Kd.R_lit (Kd.int .u8) _ 5 ?hg (N := 22) ?hd (xs := ([((rd_T80 l0 x8_1).f0) % 256, ((rd_T80 l0 x8_1).f1) % 256, ((rd_T80 l0 x8_1).f2) % 256] : List Int)) (inner := [.int .u8 (((rd_T80 l0 x8_1).f0) % 256), .int .u8 (((rd_T80 l0 x8_1).f1) % 256), .int .u8 (((rd_T80 l0 x8_1).f2) % 256)]) (ok := fun _ => True) (okp := fun _ => True) ?hr ?hp (fun _ hk => hk) trivial (Below.refl _ _) (Nat.le_refl _) (by simp) ?_; (case hd => rfl); (case hg => rfl); (case hr => first | (go_simp; done) | (go_simp; rfl)); (case hp => exact (Reps.one (show Kd.M (Kd.int .u8) _ _ _ (((rd_T80 l0 x8_1).f0) % 256) [.int .u8 (((rd_T80 l0 x8_1).f0) % 256)] from rfl) (Reps.one (show Kd.M (Kd.int .u8) _ _ _ (((rd_T80 l0 x8_1).f1) % 256) [.int .u8 (((rd_T80 l0 x8_1).f1) % 256)] from rfl) (Reps.one (show Kd.M (Kd.int .u8) _ _ _ (((rd_T80 l0 x8_1).f2) % 256) [.int .u8 (((rd_T80 l0 x8_1).f2) % 256)] from rfl) (Reps.none _ _))))); intro v260 w8 ho9 hb hg_ hnew_; clear hg_ hnew_; (first | rw [← Ny259.out] at ho9 | (simp only [Int.reduceToNat] at ho9; rw [← Ny259.out] at ho9)); have n0_ := Aside0.mk (Kd.R_elder' (by (with_reducible repeat (first | apply Kd.R_alloc | apply Kd.R_drewN | apply Kd.R_drew)); exact (Kd.R_mono (Kd.R_far (p := ⟨gb258, 2, none⟩) (Kd.R_far (p := ⟨gb258, 1, none⟩) (Kd.R_far (p := ⟨gb258, 0, none⟩) (Kd.R_types HO_3.out BK258.out (by decide)) (fun _ hk => hk.2) (.int .i64 ((rd_T80 l0 x8_1).f0))) (fun _ hk => hk.2) (.int .i64 ((rd_T80 l0 x8_1).f1))) (fun _ hk => hk.2) (.int .i64 ((rd_T80 l0 x8_1).f2))) (fun _ h_ => h_.1))) (Kd.R_base ho9) hb); have n1_ := Aside0.mk (Kd.R_lower (Kd.R_new' ho9 (Kd.R_lt (by (with_reducible repeat (first | apply Kd.R_alloc | apply Kd.R_drewN | apply Kd.R_drew)); exact (Kd.R_mono (Kd.R_far (p := ⟨gb258, 2, none⟩) (Kd.R_far (p := ⟨gb258, 1, none⟩) (Kd.R_far (p := ⟨gb258, 0, none⟩) (Kd.R_types HO_3.out BK258.out (by decide)) (fun _ hk => hk.2) (.int .i64 ((rd_T80 l0 x8_1).f0))) (fun _ hk => hk.2) (.int .i64 ((rd_T80 l0 x8_1).f1))) (fun _ hk => hk.2) (.int .i64 ((rd_T80 l0 x8_1).f2))) (fun _ h_ => h_.1))))) (below_size (by repeat (first | (with_reducible first | exact HB.out | apply bwA | apply bwN | apply bw1 | refine bwS ?_ GE258.out) | exact HB.out)))); have n2_ := Aside0.mk (blk_below (g := gb258) (o := .cells #[.int .i64 ((rd_T80 l0 x8_1).f0), .int .i64 ((rd_T80 l0 x8_1).f1), .int .i64 ((rd_T80 l0 x8_1).f2)] 80 (0, 0)) (by (with_reducible repeat (first | refine blk_drewN ?_ _ | refine blk_drew ?_ | refine blk_alloc ?_ _)); refine blk_put (cs := #[.int .i64 ((rd_T80 l0 x8_1).f0), .int .i64 ((rd_T80 l0 x8_1).f1), .int .i64 0]) ?_ 2 _ rfl; (with_reducible repeat (first | refine blk_drewN ?_ _ | refine blk_drew ?_ | refine blk_alloc ?_ _)); refine blk_put (cs := #[.int .i64 ((rd_T80 l0 x8_1).f0), .int .i64 0, .int .i64 0]) ?_ 1 _ rfl; (with_reducible repeat (first | refine blk_drewN ?_ _ | refine blk_drew ?_ | refine blk_alloc ?_ _)); refine blk_put (cs := #[.int .i64 0, .int .i64 0, .int .i64 0]) ?_ 0 _ rfl; (with_reducible repeat (first | refine blk_drewN ?_ _ | refine blk_drew ?_ | refine blk_alloc ?_ _)); exact BK258.out) hb); have n3_ := Aside0.mk (below_step (by repeat (first | (with_reducible first | exact HB.out | apply bwA | apply bwN | apply bw1 | refine bwS ?_ GE258.out) | exact HB.out)) hb); clear HO_3; clear BK258; clear HB; have HO_3 := n0_; have HO261 := n1_; have BK258 := n2_; have HB := n3_; clear n0_ n1_ n2_ n3_; clear hb ho9; obtain ⟨Ao11, co11, eo11⟩ := Kd.R_slice HO261.out; subst eo11) | ((with_reducible refine gate_builtin (b := .append) (xs := #[.tmp 12, .tmp 22]) rfl ?_); at_builtin; refine Kd.R_append_rows (Kd.int .u8) (w0 := w) w.heap.size rfl (.tmp 12) (.tmp 22) 22 5 (.int .u8 0) 1 rfl Try.underlying22 info5 rfl (by decide) (by omega) u3 x3_1 y259 _ _ _ (fun k_ => some k_ ≠ (.slice Ao11 y259.length co11 : Value).ownBlock) (fun _ => False) rfl rfl ?aO ?aR (fun _ _ h => h) (fun _ h => h.elim) ?aF ?aB ?aS ?aL ?_; (case aR => repeat (first | exact (Kd.R_reads' HO261.out).2.2 | (with_reducible refine Kd.C_alloc ?_ _) | (with_reducible refine Kd.C_drewN ?_ _) | (with_reducible refine Kd.C_drew ?_))); (case aB => exact (by repeat (first | (with_reducible first | exact HB.out | apply bwA | apply bwN | apply bw1 | refine bwS ?_ GE258.out) | exact HB.out))); (case aF => exact (fun k_ hk => Kd.fresh' (Kd.R_lt (by (with_reducible repeat (first | apply Kd.R_alloc | apply Kd.R_drewN | apply Kd.R_drew)); exact HO261.out)) k_ hk)); (case aO => exact (by (with_reducible repeat (first | apply Kd.R_alloc | apply Kd.R_drewN | apply Kd.R_drew)); exact Kd.R_mono HO_3.out (fun _ hk => hk.2))); (case aS => exact (below_size (by repeat (first | (with_reducible first | exact HB.out | apply bwA | apply bwN | apply bw1 | refine bwS ?_ GE258.out) | exact HB.out)))); (case aL => have := LMc5.out; omega); intro v263 w10 ho hb hg hat; rw [← Ny262.out] at ho; have n0_ := Aside0.mk (blk_grown (g := gb258) (o := .cells #[.int .i64 ((rd_T80 l0 x8_1).f0), .int .i64 ((rd_T80 l0 x8_1).f1), .int .i64 ((rd_T80 l0 x8_1).f2)] 80 (0, 0)) (by (with_reducible repeat (first | refine blk_drewN ?_ _ | refine blk_drew ?_ | refine blk_alloc ?_ _)); exact BK258.out) hg (Kd.R_ne HO_3.out BK258.out (by decide))); have n1_ := Aside0.mk (Kd.R_after (ok := (fun _ => True)) (by (with_reducible repeat (first | apply Kd.R_alloc | apply Kd.R_drewN | apply Kd.R_drew)); exact HO261.out) hg hat); have n2_ := Aside0.mk (hb); have n3_ := Aside0.mk (ho); clear BK258; clear HO261; clear HB; clear HO_3; have BK258 := n0_; have HO261 := n1_; have HB := n2_; have HO264 := n3_; clear n0_ n1_ n2_ n3_; clear ho hb hg hat))
       go_roundg k1
       case measure => have := HK1.out; omega
       case rel => exact ⟨(y262), (wrap64 (x8_1 + 1)), (by first | rfl | (simp; done) | (simp [*]; done)), H', ⟨by have := HK1.out; omega⟩, ⟨by (with_reducible repeat (first | apply Kd.R_alloc | apply Kd.R_drewN | apply Kd.R_drew)); exact Kd.R_mono HO264.out (fun _ hk => trivial)⟩, ⟨by repeat (first | (with_reducible first | exact HB.out | apply bwA | apply bwN | apply bw1 | refine bwS ?_ GE258.out) | exact HB.out)⟩⟩
      ·rw [if_neg c5] at H
       exact absurd H (by simp)
     ·rw [if_neg c4] at H
      exact absurd H (by simp)
    ·rw [if_neg c3] at H
     exact absurd H (by simp)
   ·rw [if_neg c2] at H
    have c2b0 : decide (x8_1 < (l0.length : Int)) = false := decide_eq_false c2
    clear c2
    obtain rfl := Option.some.inj H
    go_wp2
    go_ret
    exact ⟨_, by first | rfl | (simp [errW_none, errW_some] <;> rfl) | (simp [*, errW_none, errW_some] <;> rfl), by (with_reducible repeat (first | apply Kd.R_alloc | apply Kd.R_drewN | apply Kd.R_drew)); exact HO_3.out, by repeat (first | (with_reducible first | exact HB.out | apply bwA | apply bwN | apply bw1) | exact HB.out)⟩
end Go.Proofs.Ythfkgnkojhocbaa.S
end
