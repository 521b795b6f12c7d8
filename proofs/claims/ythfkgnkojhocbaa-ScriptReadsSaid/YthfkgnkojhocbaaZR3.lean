/- Part 3 of the proof of scriptReads_holds. Conditions stand in each theorem; nothing is assumed. Gathered by a program of this session out of its texts and the kit's words. -/
import Derived.Test.YthfkgnkojhocbaaZR2
section
namespace Go.Proofs.Ythfkgnkojhocbaa.S
open Go.RowKit Go.Proofs.YthfkgnkojhocbaaW.PrintWords Go.Proofs.YthfkgnkojhocbaaW.PrintLast Go.Proofs.YthfkgnkojhocbaaW.PrintMore
attribute [local go_sem] max2_int min2_int max_two min_two max_three min_three max_four min_four
set_option linter.unusedVariables false
set_option linter.unusedSimpArgs false
mutual
def quarrelref20_txn.j0 : Nat → List Int → Int → Int → Bool → Option ((List (S80)) × Int × Int)
  | 0, _, _, _, _ => none
  | k + 1, x0, x1, x2, x30 => if x30 = true then (some (([] : List (S80)), x1, 3)) else (if 0 ≤ x1 then (if x1 < (x0.length : Int) then (quarrelref20_txn.l0 k x0 (wrap64 (x1 + 1)) x2 (wrap64 (rd x0 x1)) ([] : List (S80)) 0) else (none)) else (none))
def quarrelref20_txn.l0 : Nat → List Int → Int → Int → Int → List (S80) → Int → Option ((List (S80)) × Int × Int)
  | 0, _, _, _, _, _, _ => none
  | k + 1, x0, x1, x2, x9, x10, x11 => if x11 < x9 then (if (wrap64 ((x0.length : Int) - x1)) < 3 then (some (([] : List (S80)), (x0.length : Int), 9)) else (if 0 ≤ x1 then (if x1 < (x0.length : Int) then (if 0 ≤ (wrap64 (x1 + 1)) then (if (wrap64 (x1 + 1)) < (x0.length : Int) then (if 0 ≤ (wrap64 (x1 + 2)) then (if (wrap64 (x1 + 2)) < (x0.length : Int) then ((quarrelref20_signed.f (rd x0 (wrap64 (x1 + 2)))).bind fun t163 => ((quarrelref11_Ok.f k (wrap64 (rd x0 x1)) (wrap64 (rd x0 (wrap64 (x1 + 1)))) t163 x2).bind fun t165 => (if t165 = true then (if x10.length < 5864062014805 then (quarrelref20_txn.l0 k x0 (wrap64 (x1 + 3)) x2 x9 (x10 ++ [(⟨wrap64 (rd x0 x1), wrap64 (rd x0 (wrap64 (x1 + 1))), t163⟩ : S80)]) (wrap64 (x11 + 1))) else (none)) else (some (([] : List (S80)), x1, 3))))) else (none)) else (none)) else (none)) else (none)) else (none)) else (none))) else (some (x10, x1, 0))
end
def quarrelref20_txn.f (k : Nat) (l0 : List Int) (a1 : Int) (a2 : Int) : Option ((List (S80)) × Int × Int) := if a1 ≥ (l0.length : Int) then (some (([] : List (S80)), (l0.length : Int), 9)) else (if 0 ≤ a1 then (if a1 < (l0.length : Int) then (if (rd l0 a1) < 1 then (quarrelref20_txn.j0 k l0 a1 a2 true) else (quarrelref20_txn.j0 k l0 a1 a2 (decide ((rd l0 a1) > 8)))) else (none)) else (none))
theorem quarrelref20_txn.mono_l : ∀ k, (∀ y0 y1 y2 y3, LeO (quarrelref20_txn.j0 k y0 y1 y2 y3) (quarrelref20_txn.j0 (k + 1) y0 y1 y2 y3)) ∧ (∀ y0 y1 y2 y3 y4 y5, LeO (quarrelref20_txn.l0 k y0 y1 y2 y3 y4 y5) (quarrelref20_txn.l0 (k + 1) y0 y1 y2 y3 y4 y5))
  | 0 => ⟨fun _ _ _ _ r h => by simp [quarrelref20_txn.j0] at h, fun _ _ _ _ _ _ r h => by simp [quarrelref20_txn.l0] at h⟩
  | k + 1 => by
    obtain ⟨ih0, ih1⟩ := quarrelref20_txn.mono_l k
    refine ⟨?_, ?_⟩
    · intro y0 y1 y2 y3
      unfold quarrelref20_txn.j0
      repeat' first
      | (with_reducible exact ih0 _ _ _ _)
      | (with_reducible exact ih1 _ _ _ _ _ _)
      | (with_reducible exact quarrelref11_Ok.mono _ _ _ _ _)
      | (with_reducible exact LeO.refl _)
      | (with_reducible exact LeO.none _)
      | (with_reducible refine LeO.ite ?_ ?_)
      | (with_reducible refine LeO.bind ?_ (fun _ => ?_))
      | exact ih0 _ _ _ _
      | exact ih1 _ _ _ _ _ _
      | exact quarrelref11_Ok.mono _ _ _ _ _
      | exact LeO.none _
      | refine LeO.ite ?_ ?_
      | refine LeO.bind ?_ (fun _ => ?_)
    · intro y0 y1 y2 y3 y4 y5
      unfold quarrelref20_txn.l0
      repeat' first
      | (with_reducible exact ih0 _ _ _ _)
      | (with_reducible exact ih1 _ _ _ _ _ _)
      | (with_reducible exact quarrelref11_Ok.mono _ _ _ _ _)
      | (with_reducible exact LeO.refl _)
      | (with_reducible exact LeO.none _)
      | (with_reducible refine LeO.ite ?_ ?_)
      | (with_reducible refine LeO.bind ?_ (fun _ => ?_))
      | exact ih0 _ _ _ _
      | exact ih1 _ _ _ _ _ _
      | exact quarrelref11_Ok.mono _ _ _ _ _
      | exact LeO.none _
      | refine LeO.ite ?_ ?_
      | refine LeO.bind ?_ (fun _ => ?_)
theorem quarrelref20_txn.mono : ∀ a0 a1 a2 k, LeO (quarrelref20_txn.f k a0 a1 a2) (quarrelref20_txn.f (k + 1) a0 a1 a2) := by
  intro a0 a1 a2 k
  obtain ⟨ih0, ih1⟩ := quarrelref20_txn.mono_l k
  unfold quarrelref20_txn.f
  repeat' first
      | (with_reducible exact ih0 _ _ _ _)
      | (with_reducible exact ih1 _ _ _ _ _ _)
      | (with_reducible exact quarrelref11_Ok.mono _ _ _ _ _)
      | (with_reducible exact LeO.refl _)
      | (with_reducible exact LeO.none _)
      | (with_reducible refine LeO.ite ?_ ?_)
      | (with_reducible refine LeO.bind ?_ (fun _ => ?_))
      | exact ih0 _ _ _ _
      | exact ih1 _ _ _ _ _ _
      | exact quarrelref11_Ok.mono _ _ _ _ _
      | exact LeO.none _
      | refine LeO.ite ?_ ?_
      | refine LeO.bind ?_ (fun _ => ?_)
def quarrelref20_txn.T13 : Bool × List (List Nat × List Nat) := (true, [([], []), ([], []), ([0, 1], [0, 1]), ([2], [2]), ([3], [3]), ([], []), ([], []), ([6], [6]), ([5, 7], [5, 7]), ([8], [8]), ([9], [9]), ([], []), ([], []), ([12], [12]), ([11, 13], [11, 13]), ([14], [14]), ([15], [15]), ([4, 10, 16], [4, 10, 16]), ([], []), ([18, 17, 16, 0, 1, 2, 3, 4, 5, 6, 7, 8, 9, 10, 11, 12, 13, 14, 15, 16, 17, 18], [17, 18])])
def quarrelref20_txn.B13 : List Nat := [0, 0, 3, 7, 15, 0, 0, 64, 224, 480, 992, 0, 0, 4096, 14336, 30720, 63488, 131071, 0, 524287]
theorem quarrelref20_txn.tab13 : rtab .any (opsOf Try.f27 13) = quarrelref20_txn.T13 := by kernel_rfl
theorem quarrelref20_txn.bits13 : waitsOk quarrelref20_txn.T13.2 quarrelref20_txn.B13 = true := by kernel_rfl
set_option maxHeartbeats 8000000 in
set_option maxRecDepth 100000 in
theorem quarrelref20_txn.calls (k : Nat) (A0 : Option Addr) (c0 : Nat) (l0 : List Int) (a1 : Int) (a2 : Int) (r1 : List (S80)) (r2 : Int) (r3 : Int) (w : World) (hr0 : Kd.C (Kd.int .u8) w A0 l0.length l0) (hc0 : l0.length ≤ c0) (h : quarrelref20_txn.f k l0 a1 a2 = some (r1, r2, r3)) :
  Calls Try.prog 27 #[.slice A0 l0.length c0, .int .i64 a1, .int .i64 a2] w fun e w' => ∃ v0_ : Value, e = .returned (.tuple #[v0_, .int .i64 r2, .int .i64 r3]) ∧ Kd.R k80 80 w' w.heap.size (fun _ => True) v0_ r1 ∧ Below w.heap.size w w' := by
 have hu80 := Try.underlying80
 have HR0 := Aside0.mk hr0
 have HC0 := Aside0.mk hc0
 clear hr0 hc0
 have HB := Aside0.mk (Below.refl w.heap.size w)
 have H : (if a1 ≥ (l0.length : Int) then (some (([] : List (S80)), (l0.length : Int), 9)) else (if 0 ≤ a1 then (if a1 < (l0.length : Int) then (if (rd l0 a1) < 1 then (quarrelref20_txn.j0 k l0 a1 a2 true) else (quarrelref20_txn.j0 k l0 a1 a2 (decide ((rd l0 a1) > 8)))) else (none)) else (none))) = some (r1, r2, r3) := h
 clear h
 by_cases c4 : a1 ≥ (l0.length : Int)
 ·rw [if_pos c4] at H
  have c4b0 : decide ((l0.length : Int) ≤ a1) = true := decide_eq_true c4
  clear c4
  simp only [Option.some.injEq, Prod.mk.injEq] at H
  obtain ⟨rfl, rfl, rfl⟩ := H
  go_enter Try.func27, Try.ntmps27
  go_wp2
  go_ret3
  exact ⟨_, by first | rfl | (simp [errW_none, errW_some] <;> rfl) | (simp [*, errW_none, errW_some] <;> rfl), by first | exact Kd.R_nil _ _ _ _ _ | exact Kd.N_nil _ _ _ _ _ | exact Kd.V_nil _ _ _ _ _ | exact Kd.Q_nil _ _ _ _ _ | exact Kd.S_nil _ _ _ _ _, by repeat (first | (with_reducible first | exact HB.out | apply bwA | apply bwN | apply bw1) | exact HB.out)⟩
 ·rw [if_neg c4] at H
  have c4b0 : decide ((l0.length : Int) ≤ a1) = false := decide_eq_false c4
  clear c4
  have HC5 := Aside0.mk H
  clear H
  go_enter Try.func27, Try.ntmps27
  go_upto_region 3 with (fail)
  go_cut [30] (fun v30 wc => ∃ (kq : Nat) (x30_4 : Bool), v30 = .bool x30_4 ∧ Aside0 (quarrelref20_txn.j0 kq l0 a1 a2 x30_4 = some (r1, r2, r3)) ∧ Aside0 (kq ≤ k) ∧ Aside0 (Below w.heap.size w wc))
  case first =>
   have H := HC5.out
   clear HC5
   by_cases c6 : 0 ≤ a1
   ·rw [if_pos c6] at H
    have c6b0 : decide (0 ≤ a1) = true := decide_eq_true c6
    clear c6
    (first | rw [c6b0] | (simp only [i64_w, i32_w]; rw [c6b0]) | skip)
    by_cases c7 : a1 < (l0.length : Int)
    ·rw [if_pos c7] at H
     have c7b0 : decide (a1 < (l0.length : Int)) = true := decide_eq_true c7
     clear c7
     by_cases c8 : (rd l0 a1) < 1
     ·rw [if_pos c8] at H
      have c8b0 : decide ((rd l0 a1) < 1) = true := decide_eq_true c8
      clear c8
      have H' := Aside0.mk H
      clear H
      have p157 : 0 ≤ (a1 : Int) := of_decide_eq_true (by first | (with_reducible assumption) | assumption)
      have q157 : a1 < (l0.length : Int) := of_decide_eq_true (by first | (with_reducible assumption) | assumption)
      obtain ⟨ad157, e157, hx157_0⟩ := Kd.at_int HR0.out a1 p157 q157
      cases e157
      replace hx157_0 := (HB.out.cell (World.block_lt_of_cell? w _ hx157_0)).trans hx157_0
      replace p157 := eq_true p157
      replace q157 := eq_true q157
      go_wp2
      go_meet
      case rel => exact ⟨_, (true), (by first | rfl | (simp; done) | (simp [*]; done)), H', ⟨by first | omega | exact Nat.le_refl _⟩, ⟨by repeat (first | (with_reducible first | exact HB.out | apply bwA | apply bwN | apply bw1) | exact HB.out)⟩⟩
     ·rw [if_neg c8] at H
      have c8b0 : decide ((rd l0 a1) < 1) = false := decide_eq_false c8
      clear c8
      have H' := Aside0.mk H
      clear H
      have p157 : 0 ≤ (a1 : Int) := of_decide_eq_true (by first | (with_reducible assumption) | assumption)
      have q157 : a1 < (l0.length : Int) := of_decide_eq_true (by first | (with_reducible assumption) | assumption)
      obtain ⟨ad157, e157, hx157_0⟩ := Kd.at_int HR0.out a1 p157 q157
      cases e157
      replace hx157_0 := (HB.out.cell (World.block_lt_of_cell? w _ hx157_0)).trans hx157_0
      replace p157 := eq_true p157
      replace q157 := eq_true q157
      have p158 : 0 ≤ (a1 : Int) := of_decide_eq_true (by first | (with_reducible assumption) | assumption)
      have q158 : a1 < (l0.length : Int) := of_decide_eq_true (by first | (with_reducible assumption) | assumption)
      obtain ⟨ad158, e158, hx158_0⟩ := Kd.at_int HR0.out a1 p158 q158
      obtain rfl : ad157 = ad158 := (by injection e158)
      replace hx158_0 := (HB.out.cell (World.block_lt_of_cell? w _ hx158_0)).trans hx158_0
      replace p158 := eq_true p158
      replace q158 := eq_true q158
      go_wp2
      go_meet
      case rel => exact ⟨_, (decide ((rd l0 a1) > 8)), (by first | rfl | (simp; done) | (simp [*]; done)), H', ⟨by first | omega | exact Nat.le_refl _⟩, ⟨by repeat (first | (with_reducible first | exact HB.out | apply bwA | apply bwN | apply bw1) | exact HB.out)⟩⟩
    ·rw [if_neg c7] at H
     exact absurd H (by simp)
   ·rw [if_neg c6] at H
    exact absurd H (by simp)
  case rest =>
   clear HC5
   try clear c4
   try clear c4b0
   obtain ⟨kq, x30_4, rfl, HA, HJ4, HB⟩ := hcut
   cases kq with
   | zero => exact absurd HA.out (by simp [quarrelref20_txn.j0])
   | succ kj4 =>
    have H := HA.out
    clear HA
    simp only [quarrelref20_txn.j0] at H
    by_cases c9 : x30_4 = true
    ·subst c9
     have H1 : (some (([] : List (S80)), a1, 3)) = some (r1, r2, r3) := by rw [if_pos rfl] at H; exact H
     clear H
     have H := H1
     clear H1
     simp only [Option.some.injEq, Prod.mk.injEq] at H
     obtain ⟨rfl, rfl, rfl⟩ := H
     go_wp2
     go_ret3
     exact ⟨_, by first | rfl | (simp [errW_none, errW_some] <;> rfl) | (simp [*, errW_none, errW_some] <;> rfl), by first | exact Kd.R_nil _ _ _ _ _ | exact Kd.N_nil _ _ _ _ _ | exact Kd.V_nil _ _ _ _ _ | exact Kd.Q_nil _ _ _ _ _ | exact Kd.S_nil _ _ _ _ _, by repeat (first | (with_reducible first | exact HB.out | apply bwA | apply bwN | apply bw1) | exact HB.out)⟩
    ·replace c9 := Bool.eq_false_iff.mpr c9
     subst c9
     have H1 : (if 0 ≤ a1 then (if a1 < (l0.length : Int) then (quarrelref20_txn.l0 kj4 l0 (wrap64 (a1 + 1)) a2 (wrap64 (rd l0 a1)) ([] : List (S80)) 0) else (none)) else (none)) = some (r1, r2, r3) := by rw [if_neg (show ¬ (false = true) by decide)] at H; exact H
     clear H
     have H := H1
     clear H1
     by_cases c10 : 0 ≤ a1
     ·rw [if_pos c10] at H
      have c10b0 : decide (0 ≤ a1) = true := decide_eq_true c10
      clear c10
      by_cases c11 : a1 < (l0.length : Int)
      ·rw [if_pos c11] at H
       have c11b0 : decide (a1 < (l0.length : Int)) = true := decide_eq_true c11
       clear c11
       have H' := Aside0.mk H
       clear H
       have p159 : 0 ≤ (a1 : Int) := of_decide_eq_true (by first | (with_reducible assumption) | assumption)
       have q159 : a1 < (l0.length : Int) := of_decide_eq_true (by first | (with_reducible assumption) | assumption)
       obtain ⟨ad159, e159, hx159_0⟩ := Kd.at_int HR0.out a1 p159 q159
       cases e159
       replace hx159_0 := (HB.out.cell (World.block_lt_of_cell? w _ hx159_0)).trans hx159_0
       replace p159 := eq_true p159
       replace q159 := eq_true q159
       go_wp2
       go_loopg [1, 10, 11] kj4 (fun kq v1 v10 v11 w' => ∃ (x1_2 : Int) (x10_2 : List (S80)) (x11_2 : Int), v1 = .int .i64 x1_2 ∧ v11 = .int .i64 x11_2 ∧ Aside0 (quarrelref20_txn.l0 kq l0 x1_2 a2 (wrap64 (rd l0 a1)) x10_2 x11_2 = some (r1, r2, r3)) ∧ Aside0 (kq ≤ kj4) ∧ Aside0 (Kd.R k80 80 w' w.heap.size (fun _ => True) v10 x10_2) ∧ Aside0 (Below w.heap.size w w'))
       case atStart => exact ⟨(wrap64 (a1 + 1)), (([] : List (S80))), (0), (by first | rfl | (simp; done) | (simp [*]; done)), (by first | rfl | (simp; done) | (simp [*]; done)), H', ⟨Nat.le_refl _⟩, ⟨by first | exact Kd.R_nil _ _ _ _ _ | exact Kd.N_nil _ _ _ _ _ | exact Kd.V_nil _ _ _ _ _ | exact Kd.Q_nil _ _ _ _ _ | exact Kd.S_nil _ _ _ _ _⟩, ⟨by repeat (first | (with_reducible first | exact HB.out | apply bwA | apply bwN | apply bw1) | exact HB.out)⟩⟩
       case round =>
        clear H'
        try clear c4
        try clear c4b0
        try clear c9
        try clear c10
        try clear c10b0
        try clear c11
        try clear c11b0
        try clear hx159_0
        try clear p159
        try clear q159
        obtain ⟨x1_2, x10_2, x11_2, rfl, rfl, HA, HK2, HO_10, HB⟩ := hrel
        cases gk with
        | zero => exact absurd HA.out (by simp [quarrelref20_txn.l0])
        | succ k2 =>
         have H := HA.out
         clear HA
         simp only [quarrelref20_txn.l0] at H
         by_cases c12 : x11_2 < (wrap64 (rd l0 a1))
         ·rw [if_pos c12] at H
          have c12b0 : decide (x11_2 < (wrap64 (rd l0 a1))) = true := decide_eq_true c12
          clear c12
          by_cases c13 : (wrap64 ((l0.length : Int) - x1_2)) < 3
          ·rw [if_pos c13] at H
           have c13b0 : decide ((wrap64 ((l0.length : Int) - x1_2)) < 3) = true := decide_eq_true c13
           clear c13
           simp only [Option.some.injEq, Prod.mk.injEq] at H
           obtain ⟨rfl, rfl, rfl⟩ := H
           go_wp2
           go_ret3
           exact ⟨_, by first | rfl | (simp [errW_none, errW_some] <;> rfl) | (simp [*, errW_none, errW_some] <;> rfl), by first | exact Kd.R_nil _ _ _ _ _ | exact Kd.N_nil _ _ _ _ _ | exact Kd.V_nil _ _ _ _ _ | exact Kd.Q_nil _ _ _ _ _ | exact Kd.S_nil _ _ _ _ _, by repeat (first | (with_reducible first | exact HB.out | apply bwA | apply bwN | apply bw1) | exact HB.out)⟩
          ·rw [if_neg c13] at H
           have c13b0 : decide ((wrap64 ((l0.length : Int) - x1_2)) < 3) = false := decide_eq_false c13
           clear c13
           by_cases c14 : 0 ≤ x1_2
           ·rw [if_pos c14] at H
            have c14b0 : decide (0 ≤ x1_2) = true := decide_eq_true c14
            clear c14
            by_cases c15 : x1_2 < (l0.length : Int)
            ·rw [if_pos c15] at H
             have c15b0 : decide (x1_2 < (l0.length : Int)) = true := decide_eq_true c15
             clear c15
             obtain ⟨ji16, hji16⟩ : ∃ j_ : Int, (wrap64 (x1_2 + 1)) = j_ := ⟨_, rfl⟩
             replace H : (if 0 ≤ (ji16) then (if (ji16) < (l0.length : Int) then (if 0 ≤ (wrap64 (x1_2 + 2)) then (if (wrap64 (x1_2 + 2)) < (l0.length : Int) then ((quarrelref20_signed.f (rd l0 (wrap64 (x1_2 + 2)))).bind fun t163 => ((quarrelref11_Ok.f k2 (wrap64 (rd l0 x1_2)) (wrap64 (rd l0 (ji16))) t163 a2).bind fun t165 => (if t165 = true then (if x10_2.length < 5864062014805 then (quarrelref20_txn.l0 k2 l0 (wrap64 (x1_2 + 3)) a2 (wrap64 (rd l0 a1)) (x10_2 ++ [(⟨wrap64 (rd l0 x1_2), wrap64 (rd l0 (ji16)), t163⟩ : S80)]) (wrap64 (x11_2 + 1))) else (none)) else (some (([] : List (S80)), x1_2, 3))))) else (none)) else (none)) else (none)) else (none)) = some (r1, r2, r3) := by first | (rw [hji16] at H; exact H) | (simp only [hji16] at H ⊢; exact H)
             have hji16w : (IntKind.i64.wrap (x1_2 + 1)) = ji16 := (i64_w _).trans hji16
             by_cases c17 : 0 ≤ (ji16)
             ·rw [if_pos c17] at H
              have c17b0 : decide (0 ≤ (ji16)) = true := decide_eq_true c17
              clear c17
              by_cases c18 : (ji16) < (l0.length : Int)
              ·rw [if_pos c18] at H
               have c18b0 : decide ((ji16) < (l0.length : Int)) = true := decide_eq_true c18
               clear c18
               obtain ⟨ji19, hji19⟩ : ∃ j_ : Int, (wrap64 (x1_2 + 2)) = j_ := ⟨_, rfl⟩
               replace H : (if 0 ≤ (ji19) then (if (ji19) < (l0.length : Int) then ((quarrelref20_signed.f (rd l0 (ji19))).bind fun t163 => ((quarrelref11_Ok.f k2 (wrap64 (rd l0 x1_2)) (wrap64 (rd l0 (ji16))) t163 a2).bind fun t165 => (if t165 = true then (if x10_2.length < 5864062014805 then (quarrelref20_txn.l0 k2 l0 (wrap64 (x1_2 + 3)) a2 (wrap64 (rd l0 a1)) (x10_2 ++ [(⟨wrap64 (rd l0 x1_2), wrap64 (rd l0 (ji16)), t163⟩ : S80)]) (wrap64 (x11_2 + 1))) else (none)) else (some (([] : List (S80)), x1_2, 3))))) else (none)) else (none)) = some (r1, r2, r3) := by first | (rw [hji19] at H; exact H) | (simp only [hji19] at H ⊢; exact H)
               have hji19w : (IntKind.i64.wrap (x1_2 + 2)) = ji19 := (i64_w _).trans hji19
               (try rw [hji19] at hji16)
               (try rw [hji19] at hji16w)
               by_cases c20 : 0 ≤ (ji19)
               ·rw [if_pos c20] at H
                have c20b0 : decide (0 ≤ (ji19)) = true := decide_eq_true c20
                clear c20
                by_cases c21 : (ji19) < (l0.length : Int)
                ·rw [if_pos c21] at H
                 have c21b0 : decide ((ji19) < (l0.length : Int)) = true := decide_eq_true c21
                 clear c21
                 replace H := Option.bind_eq_some_iff.mp H
                 obtain ⟨t163, A220, H⟩ := H
                 replace H : ((quarrelref11_Ok.f k2 (wrap64 (rd l0 x1_2)) (wrap64 (rd l0 (ji16))) t163 a2).bind fun t165 => (if t165 = true then (if x10_2.length < 5864062014805 then (quarrelref20_txn.l0 k2 l0 (wrap64 (x1_2 + 3)) a2 (wrap64 (rd l0 a1)) (x10_2 ++ [(⟨wrap64 (rd l0 x1_2), wrap64 (rd l0 (ji16)), t163⟩ : S80)]) (wrap64 (x11_2 + 1))) else (none)) else (some (([] : List (S80)), x1_2, 3)))) = some (r1, r2, r3) := H
                 have A22 := Aside0.mk A220
                 clear A220
                 replace H := Option.bind_eq_some_iff.mp H
                 obtain ⟨t165, A230, H⟩ := H
                 replace H : (if t165 = true then (if x10_2.length < 5864062014805 then (quarrelref20_txn.l0 k2 l0 (wrap64 (x1_2 + 3)) a2 (wrap64 (rd l0 a1)) (x10_2 ++ [(⟨wrap64 (rd l0 x1_2), wrap64 (rd l0 (ji16)), t163⟩ : S80)]) (wrap64 (x11_2 + 1))) else (none)) else (some (([] : List (S80)), x1_2, 3))) = some (r1, r2, r3) := H
                 have A23 := Aside0.mk A230
                 clear A230
                 by_cases c24 : t165 = true
                 ·subst c24
                  have H1 : (if x10_2.length < 5864062014805 then (quarrelref20_txn.l0 k2 l0 (wrap64 (x1_2 + 3)) a2 (wrap64 (rd l0 a1)) (x10_2 ++ [(⟨wrap64 (rd l0 x1_2), wrap64 (rd l0 (ji16)), t163⟩ : S80)]) (wrap64 (x11_2 + 1))) else (none)) = some (r1, r2, r3) := by rw [if_pos rfl] at H; exact H
                  clear H
                  have H := H1
                  clear H1
                  by_cases c25 : x10_2.length < 5864062014805
                  ·rw [if_pos c25] at H
                   have LMc25 := Aside0.mk c25
                   clear c25
                   obtain ⟨y166, hy166⟩ : ∃ y_ : List (S80), y_ = (x10_2 ++ [(⟨wrap64 (rd l0 x1_2), wrap64 (rd l0 (ji16)), t163⟩ : S80)]) := ⟨_, rfl⟩
                   replace H : (quarrelref20_txn.l0 k2 l0 (wrap64 (x1_2 + 3)) a2 (wrap64 (rd l0 a1)) y166 (wrap64 (x11_2 + 1))) = some (r1, r2, r3) := by first | (rw [hy166]; with_reducible exact H) | (have H2_ := (Option.bind_some _ _).symm.trans H; rw [hy166]; with_reducible exact H2_) | (have H2_ := (Option.bind_some _ _).symm.trans H; with_reducible exact H2_) | with_reducible exact H | (rw [hy166]; exact H) | exact H
                   have Ny166 := Aside0.mk hy166
                   clear hy166
                   have H' := Aside0.mk H
                   clear H
                   try go_wp2
                   have n0_ := Aside0.mk (Kd.R_drew HO_10.out)
                   have n1_ := Aside0.mk (below_drew1 HB.out)
                   clear HO_10
                   clear HB
                   have HO_10 := n0_
                   have HB := n1_
                   clear n0_ n1_
                   have p160 : 0 ≤ (x1_2 : Int) := of_decide_eq_true (by first | (with_reducible assumption) | assumption)
                   have q160 : x1_2 < (l0.length : Int) := of_decide_eq_true (by first | (with_reducible assumption) | assumption)
                   obtain ⟨ad160, e160, hx160_0⟩ := Kd.at_int HR0.out x1_2 p160 q160
                   have hw160_0 := hx160_0
                   obtain rfl : ad159 = ad160 := (by injection e160)
                   replace hx160_0 := (HB.out.cell (World.block_lt_of_cell? w _ hx160_0)).trans hx160_0
                   replace p160 := eq_true p160
                   replace q160 := eq_true q160
                   have p161 : 0 ≤ ((ji16) : Int) := of_decide_eq_true (by first | (with_reducible assumption) | assumption)
                   have q161 : (ji16) < (l0.length : Int) := of_decide_eq_true (by first | (with_reducible assumption) | assumption)
                   obtain ⟨ad161, e161, hx161_0⟩ := Kd.at_int HR0.out (ji16) p161 q161
                   have hw161_0 := hx161_0
                   obtain rfl : ad159 = ad161 := (by injection e161)
                   replace hx161_0 := (HB.out.cell (World.block_lt_of_cell? w _ hx161_0)).trans hx161_0
                   replace p161 := eq_true p161
                   replace q161 := eq_true q161
                   have p162 : 0 ≤ ((ji19) : Int) := of_decide_eq_true (by first | (with_reducible assumption) | assumption)
                   have q162 : (ji19) < (l0.length : Int) := of_decide_eq_true (by first | (with_reducible assumption) | assumption)
                   obtain ⟨ad162, e162, hx162_0⟩ := Kd.at_int HR0.out (ji19) p162 q162
                   have hw162_0 := hx162_0
                   obtain rfl : ad159 = ad162 := (by injection e162)
                   replace hx162_0 := (HB.out.cell (World.block_lt_of_cell? w _ hx162_0)).trans hx162_0
                   replace p162 := eq_true p162
                   replace q162 := eq_true q162
                   refine start_ (n := 20) (S := fun w' => w'.cell? (ad159.add (x1_2).toNat) = some (.int .u8 (rd l0 x1_2)) ∧ w'.cell? (ad159.add ((ji16)).toNat) = some (.int .u8 (rd l0 (ji16))) ∧ w'.cell? (ad159.add ((ji19)).toNat) = some (.int .u8 (rd l0 (ji19)))) (ds := []) #[false, false, false, false, false, false, false, false, false, false, false, false, false, false, false, false, false, false, false, false] (by kernel_rfl) rfl rfl ⟨((HB.out.cell (World.block_lt_of_cell? w _ hw160_0)).trans hw160_0), ((HB.out.cell (World.block_lt_of_cell? w _ hw161_0)).trans hw161_0), ((HB.out.cell (World.block_lt_of_cell? w _ hw162_0)).trans hw162_0)⟩ (fun hHeld => ?_); refine with_tabW quarrelref20_txn.tab13 quarrelref20_txn.bits13 (fun HT_ HW_ => ?_)
                   generalize wr.drew = w26 at HO_10 HB hx160_0 hx161_0 hx162_0 hHeld ⊢
                   refine pure_ (i := 0) (N := some 51) (v := ?_) (a' := ?_) #[true, false, false, false, false, false, false, false, false, false, false, false, false, false, false, false, false, false, false, false] rfl rfl (any_of HT_.out (by kernel_rfl)) (fun _ _ _ h => h) (Or.inl ⟨by rfl, ?_⟩) ?_ ?_
                   rotate_left
                   ·intro w'
                    go_simp
                    with_reducible rfl
                   rotate_left
                   ·simp only [Act.put, List.setIfInBounds_toArray, List.set_cons_zero, List.set_cons_succ, i64_w, i32_w]
                    rfl
                   refine pure_ (i := 1) (N := some 52) (v := ?_) (a' := ?_) #[true, true, false, false, false, false, false, false, false, false, false, false, false, false, false, false, false, false, false, false] rfl rfl (any_of HT_.out (by kernel_rfl)) (fun _ _ _ h => h) (Or.inl ⟨by rfl, ?_⟩) ?_ ?_
                   rotate_left
                   ·intro w'
                    go_simp
                    with_reducible rfl
                   rotate_left
                   ·simp only [Act.put, List.setIfInBounds_toArray, List.set_cons_zero, List.set_cons_succ, i64_w, i32_w]
                    rfl
                   refine pure_ (i := 2) (N := some 53) (v := ?_) (a' := ?_) #[true, true, true, false, false, false, false, false, false, false, false, false, false, false, false, false, false, false, false, false] rfl rfl (any_of HT_.out (by kernel_rfl)) (fun _ _ _ h => h) (Or.inl ⟨by rfl, ?_⟩) ?_ ?_
                   rotate_left
                   ·intro w'
                    go_simp
                    with_reducible rfl
                   rotate_left
                   ·simp only [Act.put, List.setIfInBounds_toArray, List.set_cons_zero, List.set_cons_succ, i64_w, i32_w]
                    rfl
                   refine pure_ (i := 5) (N := some 56) (v := ?_) (a' := ?_) #[true, true, true, false, false, true, false, false, false, false, false, false, false, false, false, false, false, false, false, false] rfl rfl (any_of HT_.out (by kernel_rfl)) (fun _ _ _ h => h) (Or.inl ⟨by rfl, ?_⟩) ?_ ?_
                   rotate_left
                   ·intro w'
                    go_simp
                    with_reducible rfl
                   rotate_left
                   ·simp only [Act.put, List.setIfInBounds_toArray, List.set_cons_zero, List.set_cons_succ, i64_w, i32_w]
                    rfl
                   refine pure_ (i := 6) (N := some 57) (v := ?_) (a' := ?_) #[true, true, true, false, false, true, true, false, false, false, false, false, false, false, false, false, false, false, false, false] rfl rfl (any_of HT_.out (by kernel_rfl)) (fun _ _ _ h => h) (Or.inl ⟨by rfl, ?_⟩) ?_ ?_
                   rotate_left
                   ·intro w'
                    go_simp
                    with_reducible rfl
                   rotate_left
                   ·simp only [Act.put, List.setIfInBounds_toArray, List.set_cons_zero, List.set_cons_succ, i64_w, i32_w]
                    rfl
                   refine pure_ (i := 7) (N := some 58) (v := ?_) (a' := ?_) #[true, true, true, false, false, true, true, true, false, false, false, false, false, false, false, false, false, false, false, false] rfl rfl (any_of HT_.out (by kernel_rfl)) (fun _ _ _ h => h) (Or.inl ⟨by rfl, ?_⟩) ?_ ?_
                   rotate_left
                   ·intro w'
                    go_simp
                    with_reducible rfl
                   rotate_left
                   ·simp only [Act.put, List.setIfInBounds_toArray, List.set_cons_zero, List.set_cons_succ, i64_w, i32_w]
                    rfl
                   refine pure_ (i := 8) (N := some 59) (v := ?_) (a' := ?_) #[true, true, true, false, false, true, true, true, true, false, false, false, false, false, false, false, false, false, false, false] rfl rfl (any_of HT_.out (by kernel_rfl)) (fun _ _ _ h => h) (Or.inl ⟨by rfl, ?_⟩) ?_ ?_
                   rotate_left
                   ·intro w'
                    go_simp
                    with_reducible rfl
                   rotate_left
                   ·simp only [Act.put, List.setIfInBounds_toArray, List.set_cons_zero, List.set_cons_succ, i64_w, i32_w]
                    rfl
                   refine pure_ (i := 11) (N := some 62) (v := ?_) (a' := ?_) #[true, true, true, false, false, true, true, true, true, false, false, true, false, false, false, false, false, false, false, false] rfl rfl (any_of HT_.out (by kernel_rfl)) (fun _ _ _ h => h) (Or.inl ⟨by rfl, ?_⟩) ?_ ?_
                   rotate_left
                   ·intro w'
                    go_simp
                    with_reducible rfl
                   rotate_left
                   ·simp only [Act.put, List.setIfInBounds_toArray, List.set_cons_zero, List.set_cons_succ, i64_w, i32_w]
                    rfl
                   refine pure_ (i := 12) (N := some 63) (v := ?_) (a' := ?_) #[true, true, true, false, false, true, true, true, true, false, false, true, true, false, false, false, false, false, false, false] rfl rfl (any_of HT_.out (by kernel_rfl)) (fun _ _ _ h => h) (Or.inl ⟨by rfl, ?_⟩) ?_ ?_
                   rotate_left
                   ·intro w'
                    go_simp
                    with_reducible rfl
                   rotate_left
                   ·simp only [Act.put, List.setIfInBounds_toArray, List.set_cons_zero, List.set_cons_succ, i64_w, i32_w]
                    rfl
                   refine pure_ (i := 13) (N := some 64) (v := ?_) (a' := ?_) #[true, true, true, false, false, true, true, true, true, false, false, true, true, true, false, false, false, false, false, false] rfl rfl (any_of HT_.out (by kernel_rfl)) (fun _ _ _ h => h) (Or.inl ⟨by rfl, ?_⟩) ?_ ?_
                   rotate_left
                   ·intro w'
                    go_simp
                    with_reducible rfl
                   rotate_left
                   ·simp only [Act.put, List.setIfInBounds_toArray, List.set_cons_zero, List.set_cons_succ, i64_w, i32_w]
                    rfl
                   refine pure_ (i := 14) (N := some 65) (v := ?_) (a' := ?_) #[true, true, true, false, false, true, true, true, true, false, false, true, true, true, true, false, false, false, false, false] rfl rfl (any_of HT_.out (by kernel_rfl)) (fun _ _ _ h => h) (Or.inl ⟨by rfl, ?_⟩) ?_ ?_
                   rotate_left
                   ·intro w'
                    go_simp
                    with_reducible rfl
                   rotate_left
                   ·simp only [Act.put, List.setIfInBounds_toArray, List.set_cons_zero, List.set_cons_succ, i64_w, i32_w]
                    rfl
                   refine take_ (i := 3) (N := some 54) (v := ?_) (a' := ?_) #[true, true, true, true, false, true, true, true, true, false, false, true, true, true, true, false, false, false, false, false] rfl rfl (take_ofW HT_.out HW_.out (by kernel_rfl)) (fun _ _ _ h => h) (Or.inl ⟨by rfl, ?_⟩) hHeld ?_ ?_
                   rotate_left
                   ·rintro w' ⟨s0, s1, s2⟩
                    go_simp
                    with_reducible rfl
                   rotate_left
                   ·simp only [Act.put, List.setIfInBounds_toArray, List.set_cons_zero, List.set_cons_succ, i64_w, i32_w]
                    rfl
                   refine pure_ (i := 4) (N := some 55) (v := ?_) (a' := ?_) #[true, true, true, true, true, true, true, true, true, false, false, true, true, true, true, false, false, false, false, false] rfl rfl (any_of HT_.out (by kernel_rfl)) (fun _ _ _ h => h) (Or.inl ⟨by rfl, ?_⟩) ?_ ?_
                   rotate_left
                   ·intro w'
                    go_simp
                    with_reducible rfl
                   rotate_left
                   ·simp only [Act.put, List.setIfInBounds_toArray, List.set_cons_zero, List.set_cons_succ, i64_w, i32_w]
                    rfl
                   refine take_ (i := 9) (N := some 60) (v := ?_) (a' := ?_) #[true, true, true, true, true, true, true, true, true, true, false, true, true, true, true, false, false, false, false, false] rfl rfl (take_ofW HT_.out HW_.out (by kernel_rfl)) (fun _ _ _ h => h) (Or.inl ⟨by rfl, ?_⟩) hHeld ?_ ?_
                   rotate_left
                   ·rintro w' ⟨s0, s1, s2⟩
                    go_simp
                    with_reducible rfl
                   rotate_left
                   ·simp only [Act.put, List.setIfInBounds_toArray, List.set_cons_zero, List.set_cons_succ, i64_w, i32_w]
                    rfl
                   refine pure_ (i := 10) (N := some 61) (v := ?_) (a' := ?_) #[true, true, true, true, true, true, true, true, true, true, true, true, true, true, true, false, false, false, false, false] rfl rfl (any_of HT_.out (by kernel_rfl)) (fun _ _ _ h => h) (Or.inl ⟨by rfl, ?_⟩) ?_ ?_
                   rotate_left
                   ·intro w'
                    go_simp
                    with_reducible rfl
                   rotate_left
                   ·simp only [Act.put, List.setIfInBounds_toArray, List.set_cons_zero, List.set_cons_succ, i64_w, i32_w]
                    rfl
                   refine take_ (i := 15) (N := some 66) (v := ?_) (a' := ?_) #[true, true, true, true, true, true, true, true, true, true, true, true, true, true, true, true, false, false, false, false] rfl rfl (take_ofW HT_.out HW_.out (by kernel_rfl)) (fun _ _ _ h => h) (Or.inl ⟨by rfl, ?_⟩) hHeld ?_ ?_
                   rotate_left
                   ·rintro w' ⟨s0, s1, s2⟩
                    go_simp
                    with_reducible rfl
                   rotate_left
                   ·simp only [Act.put, List.setIfInBounds_toArray, List.set_cons_zero, List.set_cons_succ, i64_w, i32_w]
                    rfl
                   refine join_ (σ := Nat) 1 #[true, true, true, true, true, true, true, true, true, true, true, true, true, true, true, true, true, true, true, false] (fun s_ => [(67, .int .i64 t163), (12, .pointer (some ⟨s_, 0, none⟩)), (68, .agg #[.int .i64 (wrap64 (rd l0 x1_2)), .int .i64 (wrap64 (rd l0 (ji16))), .int .i64 t163])]) (fun s_ w' => (w'.cell? (ad159.add (x1_2).toNat) = some (.int .u8 (rd l0 x1_2)) ∧ w'.cell? (ad159.add ((ji16)).toNat) = some (.int .u8 (rd l0 (ji16))) ∧ w'.cell? (ad159.add ((ji19)).toNat) = some (.int .u8 (rd l0 (ji19)))) ∧ (Kd.R k80 80 w' w.heap.size (fun k_ => k_ ≠ s_) u10 x10_2) ∧ (w'.heap[s_]? = some (.cells #[.int .i64 0, .int .i64 0, .int .i64 0] 80 (0, 0))) ∧ (w.heap.size ≤ s_) ∧ (w.heap.size ≤ s_) ∧ (Below w.heap.size w w')) ?_ ?_
                   rotate_left
                   ·intro hCont
                    refine two_ (i := 16) (j := 18) (Ni := some 67) (Nj := some 12) #[true, true, true, true, true, true, true, true, true, true, true, true, true, true, true, true, true, false, false, false] #[true, true, true, true, true, true, true, true, true, true, true, true, true, true, true, true, false, false, true, false] rfl rfl rfl rfl (two_of HT_.out (by kernel_rfl)) (by decide) (by decide) (fun K hK => ?_) (fun K hK => ?_)
                    ·skip
                     refine goes_ Try.func26 (by kernel_rfl) rfl #[.int .u8 (rd l0 (ji19))] (by rfl) rfl rfl (by (try simp only [List.map_toArray, List.map_cons, List.map_nil]); first | done | (simp only [hji19]; rfl) | rfl | (simp only [List.length_drop, List.length_take]; rfl)) ?_
                     with_reducible refine (quarrelref20_signed.calls (rd l0 (ji19)) t163 _ A22.out).mono ?_
                     rintro e w' ⟨rfl, ⟨nd, rfl⟩⟩
                     refine ⟨_, rfl, ?_⟩
                     refine hK.out _ _ ⟨((HB.out.cell (World.block_lt_of_cell? w _ hw160_0)).trans hw160_0), ((HB.out.cell (World.block_lt_of_cell? w _ hw161_0)).trans hw161_0), ((HB.out.cell (World.block_lt_of_cell? w _ hw162_0)).trans hw162_0)⟩ (fun hHeld => ?_)
                     clear hK K
                     refine norm_ (a' := ?_) ?_ ?_
                     rotate_left
                     ·show Act.put _ (some 67) _ = _
                      simp only [Act.put, List.setIfInBounds_toArray, List.set_cons_zero, List.set_cons_succ, i64_w, i32_w]
                      rfl
                     refine pure_ (i := 17) (N := some 68) (v := ?_) (a' := ?_) #[true, true, true, true, true, true, true, true, true, true, true, true, true, true, true, true, true, true, false, false] rfl rfl (any_of HT_.out (by kernel_rfl)) (fun _ _ _ h => h) (Or.inl ⟨by rfl, ?_⟩) ?_ ?_
                     rotate_left
                     ·intro w'
                      go_simp
                      with_reducible rfl
                     rotate_left
                     ·simp only [Act.put, List.setIfInBounds_toArray, List.set_cons_zero, List.set_cons_succ, i64_w, i32_w]
                      rfl
                     refine one_ (i := 18) (N := some 12) #[true, true, true, true, true, true, true, true, true, true, true, true, true, true, true, true, true, true, true, false] rfl rfl (one_of HT_.out (by kernel_rfl)) (by decide) (fun K hK => ?_)
                     refine box_step ?hg (N := 12) ?hd (cs := #[.int .i64 0, .int .i64 0, .int .i64 0]) (t := 80) ?hr ?_; (case hd => rfl); (case hg => rfl); (case hr => first | (go_simp; done) | (go_simp; rfl))
                     intro gb164 hg w27 hbox hb
                     have n0_ := Aside0.mk (Kd.R_below (Kd.R_elderB (by (with_reducible repeat (first | apply Kd.R_alloc | apply Kd.R_drewN | apply Kd.R_drew)); exact HO_10.out) gb164 (Nat.le_of_eq hg.symm)) hb)
                     have n1_ := Aside0.mk (below_step (by repeat (first | (with_reducible first | exact HB.out | apply bwA | apply bwN | apply bw1) | exact HB.out)) hb)
                     have n2_ := Aside0.mk (hbox)
                     have n3_ := Aside0.mk ((by rw [hg]; exact (below_size (by repeat (first | (with_reducible first | exact HB.out | apply bwA | apply bwN | apply bw1) | exact HB.out))) : w.heap.size ≤ gb164))
                     have n4_ := Aside0.mk ((by rw [hg]; exact (below_size (by repeat (first | (with_reducible first | exact HB.out | apply bwA | apply bwN | apply bw1) | exact HB.out))) : w.heap.size ≤ gb164))
                     clear HO_10
                     clear HB
                     have HO_10 := n0_
                     have HB := n1_
                     have BK164 := n2_
                     have GW164 := n3_
                     have GE164 := n4_
                     clear n0_ n1_ n2_ n3_ n4_
                     clear hb hbox hg
                     refine hK.out _ _ ⟨((HB.out.cell (World.block_lt_of_cell? w _ hw160_0)).trans hw160_0), ((HB.out.cell (World.block_lt_of_cell? w _ hw161_0)).trans hw161_0), ((HB.out.cell (World.block_lt_of_cell? w _ hw162_0)).trans hw162_0)⟩ (fun hHeld => ?_)
                     clear hK K
                     refine norm_ (a' := ?_) ?_ ?_
                     rotate_left
                     ·show Act.put _ (some 12) _ = _
                      simp only [Act.put, List.setIfInBounds_toArray, List.set_cons_zero, List.set_cons_succ, i64_w, i32_w]
                      rfl
                     exact norm_ (by simp only [putAll, Act.put, List.setIfInBounds_toArray, List.set_cons_zero, List.set_cons_succ]) (hCont (gb164) _ ⟨hHeld, (by (with_reducible repeat (first | apply Kd.R_alloc | apply Kd.R_drewN | apply Kd.R_drew)); exact Kd.R_mono HO_10.out (fun _ hk => hk.2)), (by (with_reducible repeat (first | refine blk_drewN ?_ _ | refine blk_drew ?_ | refine blk_alloc ?_ _)); exact BK164.out), GW164.out, GE164.out, (by repeat (first | (with_reducible first | exact HB.out | apply bwA | apply bwN | apply bw1 | refine bwS ?_ GE164.out) | exact HB.out))⟩)
                    ·skip
                     refine box_step ?hg (N := 12) ?hd (cs := #[.int .i64 0, .int .i64 0, .int .i64 0]) (t := 80) ?hr ?_; (case hd => rfl); (case hg => rfl); (case hr => first | (go_simp; done) | (go_simp; rfl))
                     intro gb164 hg w27 hbox hb
                     have n0_ := Aside0.mk (Kd.R_below (Kd.R_elderB (by (with_reducible repeat (first | apply Kd.R_alloc | apply Kd.R_drewN | apply Kd.R_drew)); exact HO_10.out) gb164 (Nat.le_of_eq hg.symm)) hb)
                     have n1_ := Aside0.mk (below_step (by repeat (first | (with_reducible first | exact HB.out | apply bwA | apply bwN | apply bw1) | exact HB.out)) hb)
                     have n2_ := Aside0.mk (hbox)
                     have n3_ := Aside0.mk ((by rw [hg]; exact (below_size (by repeat (first | (with_reducible first | exact HB.out | apply bwA | apply bwN | apply bw1) | exact HB.out))) : w.heap.size ≤ gb164))
                     have n4_ := Aside0.mk ((by rw [hg]; exact (below_size (by repeat (first | (with_reducible first | exact HB.out | apply bwA | apply bwN | apply bw1) | exact HB.out))) : w.heap.size ≤ gb164))
                     clear HO_10
                     clear HB
                     have HO_10 := n0_
                     have HB := n1_
                     have BK164 := n2_
                     have GW164 := n3_
                     have GE164 := n4_
                     clear n0_ n1_ n2_ n3_ n4_
                     clear hb hbox hg
                     refine hK.out _ _ ⟨((HB.out.cell (World.block_lt_of_cell? w _ hw160_0)).trans hw160_0), ((HB.out.cell (World.block_lt_of_cell? w _ hw161_0)).trans hw161_0), ((HB.out.cell (World.block_lt_of_cell? w _ hw162_0)).trans hw162_0)⟩ (fun hHeld => ?_)
                     clear hK K
                     refine norm_ (a' := ?_) ?_ ?_
                     rotate_left
                     ·show Act.put _ (some 12) _ = _
                      simp only [Act.put, List.setIfInBounds_toArray, List.set_cons_zero, List.set_cons_succ, i64_w, i32_w]
                      rfl
                     refine one_ (i := 16) (N := some 67) #[true, true, true, true, true, true, true, true, true, true, true, true, true, true, true, true, true, false, true, false] rfl rfl (one_of HT_.out (by kernel_rfl)) (by decide) (fun K hK => ?_)
                     refine goes_ Try.func26 (by kernel_rfl) rfl #[.int .u8 (rd l0 (ji19))] (by rfl) rfl rfl (by (try simp only [List.map_toArray, List.map_cons, List.map_nil]); first | done | (simp only [hji19]; rfl) | rfl | (simp only [List.length_drop, List.length_take]; rfl)) ?_
                     with_reducible refine (quarrelref20_signed.calls (rd l0 (ji19)) t163 _ A22.out).mono ?_
                     rintro e w' ⟨rfl, ⟨nd, rfl⟩⟩
                     refine ⟨_, rfl, ?_⟩
                     refine hK.out _ _ ⟨((HB.out.cell (World.block_lt_of_cell? w _ hw160_0)).trans hw160_0), ((HB.out.cell (World.block_lt_of_cell? w _ hw161_0)).trans hw161_0), ((HB.out.cell (World.block_lt_of_cell? w _ hw162_0)).trans hw162_0)⟩ (fun hHeld => ?_)
                     clear hK K
                     refine norm_ (a' := ?_) ?_ ?_
                     rotate_left
                     ·show Act.put _ (some 67) _ = _
                      simp only [Act.put, List.setIfInBounds_toArray, List.set_cons_zero, List.set_cons_succ, i64_w, i32_w]
                      rfl
                     refine pure_ (i := 17) (N := some 68) (v := ?_) (a' := ?_) #[true, true, true, true, true, true, true, true, true, true, true, true, true, true, true, true, true, true, true, false] rfl rfl (any_of HT_.out (by kernel_rfl)) (fun _ _ _ h => h) (Or.inl ⟨by rfl, ?_⟩) ?_ ?_
                     rotate_left
                     ·intro w'
                      go_simp
                      with_reducible rfl
                     rotate_left
                     ·simp only [Act.put, List.setIfInBounds_toArray, List.set_cons_zero, List.set_cons_succ, i64_w, i32_w]
                      rfl
                     exact norm_ (by simp only [putAll, Act.put, List.setIfInBounds_toArray, List.set_cons_zero, List.set_cons_succ]) (hCont (gb164) _ ⟨hHeld, (by (with_reducible repeat (first | apply Kd.R_alloc | apply Kd.R_drewN | apply Kd.R_drew)); exact Kd.R_mono HO_10.out (fun _ hk => hk.2)), (by (with_reducible repeat (first | refine blk_drewN ?_ _ | refine blk_drew ?_ | refine blk_alloc ?_ _)); exact BK164.out), GW164.out, GE164.out, (by repeat (first | (with_reducible first | exact HB.out | apply bwA | apply bwN | apply bw1 | refine bwS ?_ GE164.out) | exact HB.out))⟩)
                   rintro gb164 w28 ⟨hS_, h0_, h1_, h2_, h3_, h4_⟩
                   have n0_ : Aside0 (Kd.R k80 80 w28 w.heap.size (fun k_ => k_ ≠ gb164) u10 x10_2) := ⟨h0_⟩
                   have n1_ : Aside0 (w28.heap[gb164]? = some (.cells #[.int .i64 0, .int .i64 0, .int .i64 0] 80 (0, 0))) := ⟨h1_⟩
                   have n2_ : Aside0 (w.heap.size ≤ gb164) := ⟨h2_⟩
                   have n3_ : Aside0 (w.heap.size ≤ gb164) := ⟨h3_⟩
                   have n4_ : Aside0 (Below w.heap.size w w28) := ⟨h4_⟩
                   clear HO_10
                   clear HB
                   clear h0_ h1_ h2_ h3_ h4_
                   have HO_10 := n0_
                   have BK164 := n1_
                   have GW164 := n2_
                   have GE164 := n3_
                   have HB := n4_
                   clear n0_ n1_ n2_ n3_ n4_
                   have hHeld : w28.cell? (ad159.add (x1_2).toNat) = some (.int .u8 (rd l0 x1_2)) ∧ w28.cell? (ad159.add ((ji16)).toNat) = some (.int .u8 (rd l0 (ji16))) ∧ w28.cell? (ad159.add ((ji19)).toNat) = some (.int .u8 (rd l0 (ji19))) := hS_
                   refine norm_ (a' := ?_) ?_ ?_
                   rotate_left
                   ·simp only [putAll, Act.put, List.setIfInBounds_toArray, List.set_cons_zero, List.set_cons_succ]
                    rfl
                   refine one_ (i := 19) (N := none) #[true, true, true, true, true, true, true, true, true, true, true, true, true, true, true, true, true, true, true, true] rfl rfl (one_of HT_.out (by kernel_rfl)) (by decide) (fun K hK => ?_)
                   have hs29 : w28.cell? ⟨gb164, 0, none⟩ = some (.int .i64 0) := (blk_cell BK164.out 0).trans rfl
                   have hfs29 := blk_frozen BK164.out 0
                   have hs30 : w28.cell? ⟨gb164, 1, none⟩ = some (.int .i64 0) := (blk_cell BK164.out 1).trans rfl
                   have hfs30 := blk_frozen BK164.out 1
                   have hs31 : w28.cell? ⟨gb164, 2, none⟩ = some (.int .i64 0) := (blk_cell BK164.out 2).trans rfl
                   have hfs31 := blk_frozen BK164.out 2
                   refine skip_ (w1 := ?_) (by rfl) rfl ?_ ?_
                   rotate_left
                   ·go_simp
                    rfl
                   refine hK.out _ _ ⟨((cell_far (p := ⟨gb164, _, none⟩) (by first | exact Nat.ne_of_lt (Nat.lt_of_lt_of_le (by have := World.block_lt_of_cell? _ _ hw160_0; first | rwa [add_block] at this | exact this) GW164.out) | (rw [add_block]; exact Nat.ne_of_lt (Nat.lt_of_lt_of_le (by have := World.block_lt_of_cell? _ _ hw160_0; first | rwa [add_block] at this | exact this) GW164.out)) | (show (Addr.add _ _).block ≠ _; rw [add_block]; exact Nat.ne_of_lt (Nat.lt_of_lt_of_le (by have := World.block_lt_of_cell? _ _ hw160_0; first | rwa [add_block] at this | exact this) GW164.out)) | (dsimp only; exact Nat.ne_of_lt (Nat.lt_of_lt_of_le (by have := World.block_lt_of_cell? _ _ hw160_0; first | rwa [add_block] at this | exact this) GW164.out))) _).trans (((cell_far (p := ⟨gb164, _, none⟩) (by first | exact Nat.ne_of_lt (Nat.lt_of_lt_of_le (by have := World.block_lt_of_cell? _ _ hw160_0; first | rwa [add_block] at this | exact this) GW164.out) | (rw [add_block]; exact Nat.ne_of_lt (Nat.lt_of_lt_of_le (by have := World.block_lt_of_cell? _ _ hw160_0; first | rwa [add_block] at this | exact this) GW164.out)) | (show (Addr.add _ _).block ≠ _; rw [add_block]; exact Nat.ne_of_lt (Nat.lt_of_lt_of_le (by have := World.block_lt_of_cell? _ _ hw160_0; first | rwa [add_block] at this | exact this) GW164.out)) | (dsimp only; exact Nat.ne_of_lt (Nat.lt_of_lt_of_le (by have := World.block_lt_of_cell? _ _ hw160_0; first | rwa [add_block] at this | exact this) GW164.out))) _).trans (((cell_far (p := ⟨gb164, _, none⟩) (by first | exact Nat.ne_of_lt (Nat.lt_of_lt_of_le (by have := World.block_lt_of_cell? _ _ hw160_0; first | rwa [add_block] at this | exact this) GW164.out) | (rw [add_block]; exact Nat.ne_of_lt (Nat.lt_of_lt_of_le (by have := World.block_lt_of_cell? _ _ hw160_0; first | rwa [add_block] at this | exact this) GW164.out)) | (show (Addr.add _ _).block ≠ _; rw [add_block]; exact Nat.ne_of_lt (Nat.lt_of_lt_of_le (by have := World.block_lt_of_cell? _ _ hw160_0; first | rwa [add_block] at this | exact this) GW164.out)) | (dsimp only; exact Nat.ne_of_lt (Nat.lt_of_lt_of_le (by have := World.block_lt_of_cell? _ _ hw160_0; first | rwa [add_block] at this | exact this) GW164.out))) _).trans (hHeld.1)))))), ((cell_far (p := ⟨gb164, _, none⟩) (by first | exact Nat.ne_of_lt (Nat.lt_of_lt_of_le (by have := World.block_lt_of_cell? _ _ hw161_0; first | rwa [add_block] at this | exact this) GW164.out) | (rw [add_block]; exact Nat.ne_of_lt (Nat.lt_of_lt_of_le (by have := World.block_lt_of_cell? _ _ hw161_0; first | rwa [add_block] at this | exact this) GW164.out)) | (show (Addr.add _ _).block ≠ _; rw [add_block]; exact Nat.ne_of_lt (Nat.lt_of_lt_of_le (by have := World.block_lt_of_cell? _ _ hw161_0; first | rwa [add_block] at this | exact this) GW164.out)) | (dsimp only; exact Nat.ne_of_lt (Nat.lt_of_lt_of_le (by have := World.block_lt_of_cell? _ _ hw161_0; first | rwa [add_block] at this | exact this) GW164.out))) _).trans (((cell_far (p := ⟨gb164, _, none⟩) (by first | exact Nat.ne_of_lt (Nat.lt_of_lt_of_le (by have := World.block_lt_of_cell? _ _ hw161_0; first | rwa [add_block] at this | exact this) GW164.out) | (rw [add_block]; exact Nat.ne_of_lt (Nat.lt_of_lt_of_le (by have := World.block_lt_of_cell? _ _ hw161_0; first | rwa [add_block] at this | exact this) GW164.out)) | (show (Addr.add _ _).block ≠ _; rw [add_block]; exact Nat.ne_of_lt (Nat.lt_of_lt_of_le (by have := World.block_lt_of_cell? _ _ hw161_0; first | rwa [add_block] at this | exact this) GW164.out)) | (dsimp only; exact Nat.ne_of_lt (Nat.lt_of_lt_of_le (by have := World.block_lt_of_cell? _ _ hw161_0; first | rwa [add_block] at this | exact this) GW164.out))) _).trans (((cell_far (p := ⟨gb164, _, none⟩) (by first | exact Nat.ne_of_lt (Nat.lt_of_lt_of_le (by have := World.block_lt_of_cell? _ _ hw161_0; first | rwa [add_block] at this | exact this) GW164.out) | (rw [add_block]; exact Nat.ne_of_lt (Nat.lt_of_lt_of_le (by have := World.block_lt_of_cell? _ _ hw161_0; first | rwa [add_block] at this | exact this) GW164.out)) | (show (Addr.add _ _).block ≠ _; rw [add_block]; exact Nat.ne_of_lt (Nat.lt_of_lt_of_le (by have := World.block_lt_of_cell? _ _ hw161_0; first | rwa [add_block] at this | exact this) GW164.out)) | (dsimp only; exact Nat.ne_of_lt (Nat.lt_of_lt_of_le (by have := World.block_lt_of_cell? _ _ hw161_0; first | rwa [add_block] at this | exact this) GW164.out))) _).trans (hHeld.2.1)))))), ((cell_far (p := ⟨gb164, _, none⟩) (by first | exact Nat.ne_of_lt (Nat.lt_of_lt_of_le (by have := World.block_lt_of_cell? _ _ hw162_0; first | rwa [add_block] at this | exact this) GW164.out) | (rw [add_block]; exact Nat.ne_of_lt (Nat.lt_of_lt_of_le (by have := World.block_lt_of_cell? _ _ hw162_0; first | rwa [add_block] at this | exact this) GW164.out)) | (show (Addr.add _ _).block ≠ _; rw [add_block]; exact Nat.ne_of_lt (Nat.lt_of_lt_of_le (by have := World.block_lt_of_cell? _ _ hw162_0; first | rwa [add_block] at this | exact this) GW164.out)) | (dsimp only; exact Nat.ne_of_lt (Nat.lt_of_lt_of_le (by have := World.block_lt_of_cell? _ _ hw162_0; first | rwa [add_block] at this | exact this) GW164.out))) _).trans (((cell_far (p := ⟨gb164, _, none⟩) (by first | exact Nat.ne_of_lt (Nat.lt_of_lt_of_le (by have := World.block_lt_of_cell? _ _ hw162_0; first | rwa [add_block] at this | exact this) GW164.out) | (rw [add_block]; exact Nat.ne_of_lt (Nat.lt_of_lt_of_le (by have := World.block_lt_of_cell? _ _ hw162_0; first | rwa [add_block] at this | exact this) GW164.out)) | (show (Addr.add _ _).block ≠ _; rw [add_block]; exact Nat.ne_of_lt (Nat.lt_of_lt_of_le (by have := World.block_lt_of_cell? _ _ hw162_0; first | rwa [add_block] at this | exact this) GW164.out)) | (dsimp only; exact Nat.ne_of_lt (Nat.lt_of_lt_of_le (by have := World.block_lt_of_cell? _ _ hw162_0; first | rwa [add_block] at this | exact this) GW164.out))) _).trans (((cell_far (p := ⟨gb164, _, none⟩) (by first | exact Nat.ne_of_lt (Nat.lt_of_lt_of_le (by have := World.block_lt_of_cell? _ _ hw162_0; first | rwa [add_block] at this | exact this) GW164.out) | (rw [add_block]; exact Nat.ne_of_lt (Nat.lt_of_lt_of_le (by have := World.block_lt_of_cell? _ _ hw162_0; first | rwa [add_block] at this | exact this) GW164.out)) | (show (Addr.add _ _).block ≠ _; rw [add_block]; exact Nat.ne_of_lt (Nat.lt_of_lt_of_le (by have := World.block_lt_of_cell? _ _ hw162_0; first | rwa [add_block] at this | exact this) GW164.out)) | (dsimp only; exact Nat.ne_of_lt (Nat.lt_of_lt_of_le (by have := World.block_lt_of_cell? _ _ hw162_0; first | rwa [add_block] at this | exact this) GW164.out))) _).trans (hHeld.2.2))))))⟩ (fun hHeld => ?_)
                   clear hK K
                   refine done_ (done_of HT_.out (by kernel_rfl)) ?_
                   have hcz32_0 : w28.cell? ⟨gb164, 0, none⟩ = some (.int .i64 0) := (blk_cell BK164.out 0).trans rfl
                   have hcz32_1 : w28.cell? ⟨gb164, 1, none⟩ = some (.int .i64 0) := (blk_cell BK164.out 1).trans rfl
                   have hcz32_2 : w28.cell? ⟨gb164, 2, none⟩ = some (.int .i64 0) := (blk_cell BK164.out 2).trans rfl
                   have hfz32_0 := blk_frozen BK164.out 0
                   have hfz32_1 := blk_frozen BK164.out 1
                   have hfz32_2 := blk_frozen BK164.out 2
                   try go_wp2_with (first | ((with_reducible refine gate_callee (f := 45) rfl ?_); refine goesL_ (some 71) rfl rfl Try.func45 (by kernel_rfl) rfl #[.agg #[.int .i64 (wrap64 (rd l0 x1_2)), .int .i64 (wrap64 (rd l0 (ji16))), .int .i64 t163], .int .i64 a2] rfl (by (try simp only [List.map_toArray, List.map_cons, List.map_nil]); first | done | (simp only [hji16]; rfl) | rfl | (simp only [List.length_drop, List.length_take]; rfl)) ?_; (with_reducible refine (quarrelref11_Ok.calls k2 (wrap64 (rd l0 x1_2)) (wrap64 (rd l0 (ji16))) t163 a2 true _ A23.out).mono ?_); rintro e w33 ⟨rfl, hb⟩; refine ⟨_, rfl, ?_⟩; have n0_ := Aside0.mk (Kd.R_below (by (with_reducible repeat (first | apply Kd.R_alloc | apply Kd.R_drewN | apply Kd.R_drew)); exact (Kd.R_mono (Kd.R_far (p := ⟨gb164, 2, none⟩) (Kd.R_far (p := ⟨gb164, 1, none⟩) (Kd.R_far (p := ⟨gb164, 0, none⟩) (Kd.R_mono HO_10.out (fun k_ hk => (⟨hk, hk⟩ : _ ∧ k_ ≠ gb164))) (fun _ hk => hk.2) (.int .i64 (wrap64 (rd l0 x1_2)))) (fun _ hk => hk.2) (.int .i64 (wrap64 (rd l0 (ji16))))) (fun _ hk => hk.2) (.int .i64 t163)) (fun _ h_ => h_.1))) hb); have n1_ := Aside0.mk (blk_below (g := gb164) (o := .cells #[.int .i64 (wrap64 (rd l0 x1_2)), .int .i64 (wrap64 (rd l0 (ji16))), .int .i64 t163] 80 (0, 0)) (by (with_reducible repeat (first | refine blk_drewN ?_ _ | refine blk_drew ?_ | refine blk_alloc ?_ _)); refine blk_put (cs := #[.int .i64 (wrap64 (rd l0 x1_2)), .int .i64 (wrap64 (rd l0 (ji16))), .int .i64 0]) ?_ 2 _ rfl; (with_reducible repeat (first | refine blk_drewN ?_ _ | refine blk_drew ?_ | refine blk_alloc ?_ _)); refine blk_put (cs := #[.int .i64 (wrap64 (rd l0 x1_2)), .int .i64 0, .int .i64 0]) ?_ 1 _ rfl; (with_reducible repeat (first | refine blk_drewN ?_ _ | refine blk_drew ?_ | refine blk_alloc ?_ _)); refine blk_put (cs := #[.int .i64 0, .int .i64 0, .int .i64 0]) ?_ 0 _ rfl; (with_reducible repeat (first | refine blk_drewN ?_ _ | refine blk_drew ?_ | refine blk_alloc ?_ _)); exact BK164.out) hb); have n2_ := Aside0.mk (below_step (by repeat (first | (with_reducible first | exact HB.out | apply bwA | apply bwN | apply bw1 | refine bwS ?_ GE164.out) | exact HB.out)) hb); clear HO_10; clear BK164; clear HB; have HO_10 := n0_; have BK164 := n1_; have HB := n2_; clear n0_ n1_ n2_; (try clear hb); (try clear hb2); (try clear hk); (try clear hi); have hcz34_0 : w33.cell? ⟨gb164, 0, none⟩ = some (.int .i64 (wrap64 (rd l0 x1_2))) := (blk_cell BK164.out 0).trans rfl; have hcz34_1 : w33.cell? ⟨gb164, 1, none⟩ = some (.int .i64 (wrap64 (rd l0 (ji16)))) := (blk_cell BK164.out 1).trans rfl; have hcz34_2 : w33.cell? ⟨gb164, 2, none⟩ = some (.int .i64 t163) := (blk_cell BK164.out 2).trans rfl; have hfz34_0 := blk_frozen BK164.out 0; have hfz34_1 := blk_frozen BK164.out 1; have hfz34_2 := blk_frozen BK164.out 2) | ((with_reducible refine gate_builtin (b := .append) (xs := #[.tmp 74, .tmp 76]) rfl ?_); at_builtin; refine Kd.R_append k80 (w0 := w) w.heap.size rfl (.tmp 74) (.tmp 76) 61 80 (.agg #[(.int .i64 0), (.int .i64 0), (.int .i64 0)]) 24 rfl Try.underlying61 info80 rfl (by decide) (by omega) u10 x10_2 (⟨wrap64 (rd l0 x1_2), wrap64 (rd l0 (ji16)), t163⟩ : S80) [.int .i64 (wrap64 (rd l0 x1_2)), .int .i64 (wrap64 (rd l0 (ji16))), .int .i64 t163] (fun k_ => k_ ≠ gb164) (fun _ => False) rfl rfl ?aP (fun _ hk => hk.elim) ?aF ?aO ?aB ?aS ?aL ?_; (case aP => exact k80_mkM _ _ _ (⟨wrap64 (rd l0 x1_2), wrap64 (rd l0 (ji16)), t163⟩ : S80)); (case aB => exact (by repeat (first | (with_reducible first | exact HB.out | apply bwA | apply bwN | apply bw1 | refine bwS ?_ GE164.out) | exact HB.out))); (case aF => exact (fun k_ hk => Kd.freshB (g := gb164) (o := .cells #[.int .i64 (wrap64 (rd l0 x1_2)), .int .i64 (wrap64 (rd l0 (ji16))), .int .i64 t163] 80 (0, 0)) (by (with_reducible repeat (first | refine blk_drewN ?_ _ | refine blk_drew ?_ | refine blk_alloc ?_ _)); exact BK164.out) k_ hk)); (case aO => exact (by (with_reducible repeat (first | apply Kd.R_alloc | apply Kd.R_drewN | apply Kd.R_drew)); exact HO_10.out)); (case aS => exact (below_size (by repeat (first | (with_reducible first | exact HB.out | apply bwA | apply bwN | apply bw1 | refine bwS ?_ GE164.out) | exact HB.out)))); (case aL => have := LMc25.out; omega); intro v167 w35 ho hb hg hat; rw [← Ny166.out] at ho; have n0_ := Aside0.mk (blk_grown (g := gb164) (o := .cells #[.int .i64 (wrap64 (rd l0 x1_2)), .int .i64 (wrap64 (rd l0 (ji16))), .int .i64 t163] 80 (0, 0)) (by (with_reducible repeat (first | refine blk_drewN ?_ _ | refine blk_drew ?_ | refine blk_alloc ?_ _)); exact BK164.out) hg (Kd.R_away HO_10.out (fun _ hk => hk))); have n1_ := Aside0.mk (hb); have n2_ := Aside0.mk (ho); clear BK164; clear HB; clear HO_10; have BK164 := n0_; have HB := n1_; have HO168 := n2_; clear n0_ n1_ n2_; clear ho hb hg hat))
                   go_roundg k2
                   case measure => have := HJ4.out; have := HK2.out; omega
                   case rel => exact ⟨(wrap64 (x1_2 + 3)), (y166), (wrap64 (x11_2 + 1)), (by first | rfl | (simp; done) | (simp [*]; done)), (by first | rfl | (simp; done) | (simp [*]; done)), H', ⟨by have := HJ4.out; have := HK2.out; omega⟩, ⟨by (with_reducible repeat (first | apply Kd.R_alloc | apply Kd.R_drewN | apply Kd.R_drew)); exact Kd.R_mono HO168.out (fun _ hk => trivial)⟩, ⟨by repeat (first | (with_reducible first | exact HB.out | apply bwA | apply bwN | apply bw1 | refine bwS ?_ GE164.out) | exact HB.out)⟩⟩
                  ·rw [if_neg c25] at H
                   exact absurd H (by simp)
                 ·replace c24 := Bool.eq_false_iff.mpr c24
                  subst c24
                  have H1 : (some (([] : List (S80)), x1_2, 3)) = some (r1, r2, r3) := by rw [if_neg (show ¬ (false = true) by decide)] at H; exact H
                  clear H
                  have H := H1
                  clear H1
                  simp only [Option.some.injEq, Prod.mk.injEq] at H
                  obtain ⟨rfl, rfl, rfl⟩ := H
                  try go_wp2
                  have n0_ := Aside0.mk (Kd.R_drew HO_10.out)
                  have n1_ := Aside0.mk (below_drew1 HB.out)
                  clear HO_10
                  clear HB
                  have HO_10 := n0_
                  have HB := n1_
                  clear n0_ n1_
                  have p160 : 0 ≤ (x1_2 : Int) := of_decide_eq_true (by first | (with_reducible assumption) | assumption)
                  have q160 : x1_2 < (l0.length : Int) := of_decide_eq_true (by first | (with_reducible assumption) | assumption)
                  obtain ⟨ad160, e160, hx160_0⟩ := Kd.at_int HR0.out x1_2 p160 q160
                  have hw160_0 := hx160_0
                  obtain rfl : ad159 = ad160 := (by injection e160)
                  replace hx160_0 := (HB.out.cell (World.block_lt_of_cell? w _ hx160_0)).trans hx160_0
                  replace p160 := eq_true p160
                  replace q160 := eq_true q160
                  have p161 : 0 ≤ ((ji16) : Int) := of_decide_eq_true (by first | (with_reducible assumption) | assumption)
                  have q161 : (ji16) < (l0.length : Int) := of_decide_eq_true (by first | (with_reducible assumption) | assumption)
                  obtain ⟨ad161, e161, hx161_0⟩ := Kd.at_int HR0.out (ji16) p161 q161
                  have hw161_0 := hx161_0
                  obtain rfl : ad159 = ad161 := (by injection e161)
                  replace hx161_0 := (HB.out.cell (World.block_lt_of_cell? w _ hx161_0)).trans hx161_0
                  replace p161 := eq_true p161
                  replace q161 := eq_true q161
                  have p162 : 0 ≤ ((ji19) : Int) := of_decide_eq_true (by first | (with_reducible assumption) | assumption)
                  have q162 : (ji19) < (l0.length : Int) := of_decide_eq_true (by first | (with_reducible assumption) | assumption)
                  obtain ⟨ad162, e162, hx162_0⟩ := Kd.at_int HR0.out (ji19) p162 q162
                  have hw162_0 := hx162_0
                  obtain rfl : ad159 = ad162 := (by injection e162)
                  replace hx162_0 := (HB.out.cell (World.block_lt_of_cell? w _ hx162_0)).trans hx162_0
                  replace p162 := eq_true p162
                  replace q162 := eq_true q162
                  refine start_ (n := 20) (S := fun w' => w'.cell? (ad159.add (x1_2).toNat) = some (.int .u8 (rd l0 x1_2)) ∧ w'.cell? (ad159.add ((ji16)).toNat) = some (.int .u8 (rd l0 (ji16))) ∧ w'.cell? (ad159.add ((ji19)).toNat) = some (.int .u8 (rd l0 (ji19)))) (ds := []) #[false, false, false, false, false, false, false, false, false, false, false, false, false, false, false, false, false, false, false, false] (by kernel_rfl) rfl rfl ⟨((HB.out.cell (World.block_lt_of_cell? w _ hw160_0)).trans hw160_0), ((HB.out.cell (World.block_lt_of_cell? w _ hw161_0)).trans hw161_0), ((HB.out.cell (World.block_lt_of_cell? w _ hw162_0)).trans hw162_0)⟩ (fun hHeld => ?_); refine with_tabW quarrelref20_txn.tab13 quarrelref20_txn.bits13 (fun HT_ HW_ => ?_)
                  generalize wr.drew = w36 at HO_10 HB hx160_0 hx161_0 hx162_0 hHeld ⊢
                  refine pure_ (i := 0) (N := some 51) (v := ?_) (a' := ?_) #[true, false, false, false, false, false, false, false, false, false, false, false, false, false, false, false, false, false, false, false] rfl rfl (any_of HT_.out (by kernel_rfl)) (fun _ _ _ h => h) (Or.inl ⟨by rfl, ?_⟩) ?_ ?_
                  rotate_left
                  ·intro w'
                   go_simp
                   with_reducible rfl
                  rotate_left
                  ·simp only [Act.put, List.setIfInBounds_toArray, List.set_cons_zero, List.set_cons_succ, i64_w, i32_w]
                   rfl
                  refine pure_ (i := 1) (N := some 52) (v := ?_) (a' := ?_) #[true, true, false, false, false, false, false, false, false, false, false, false, false, false, false, false, false, false, false, false] rfl rfl (any_of HT_.out (by kernel_rfl)) (fun _ _ _ h => h) (Or.inl ⟨by rfl, ?_⟩) ?_ ?_
                  rotate_left
                  ·intro w'
                   go_simp
                   with_reducible rfl
                  rotate_left
                  ·simp only [Act.put, List.setIfInBounds_toArray, List.set_cons_zero, List.set_cons_succ, i64_w, i32_w]
                   rfl
                  refine pure_ (i := 2) (N := some 53) (v := ?_) (a' := ?_) #[true, true, true, false, false, false, false, false, false, false, false, false, false, false, false, false, false, false, false, false] rfl rfl (any_of HT_.out (by kernel_rfl)) (fun _ _ _ h => h) (Or.inl ⟨by rfl, ?_⟩) ?_ ?_
                  rotate_left
                  ·intro w'
                   go_simp
                   with_reducible rfl
                  rotate_left
                  ·simp only [Act.put, List.setIfInBounds_toArray, List.set_cons_zero, List.set_cons_succ, i64_w, i32_w]
                   rfl
                  refine pure_ (i := 5) (N := some 56) (v := ?_) (a' := ?_) #[true, true, true, false, false, true, false, false, false, false, false, false, false, false, false, false, false, false, false, false] rfl rfl (any_of HT_.out (by kernel_rfl)) (fun _ _ _ h => h) (Or.inl ⟨by rfl, ?_⟩) ?_ ?_
                  rotate_left
                  ·intro w'
                   go_simp
                   with_reducible rfl
                  rotate_left
                  ·simp only [Act.put, List.setIfInBounds_toArray, List.set_cons_zero, List.set_cons_succ, i64_w, i32_w]
                   rfl
                  refine pure_ (i := 6) (N := some 57) (v := ?_) (a' := ?_) #[true, true, true, false, false, true, true, false, false, false, false, false, false, false, false, false, false, false, false, false] rfl rfl (any_of HT_.out (by kernel_rfl)) (fun _ _ _ h => h) (Or.inl ⟨by rfl, ?_⟩) ?_ ?_
                  rotate_left
                  ·intro w'
                   go_simp
                   with_reducible rfl
                  rotate_left
                  ·simp only [Act.put, List.setIfInBounds_toArray, List.set_cons_zero, List.set_cons_succ, i64_w, i32_w]
                   rfl
                  refine pure_ (i := 7) (N := some 58) (v := ?_) (a' := ?_) #[true, true, true, false, false, true, true, true, false, false, false, false, false, false, false, false, false, false, false, false] rfl rfl (any_of HT_.out (by kernel_rfl)) (fun _ _ _ h => h) (Or.inl ⟨by rfl, ?_⟩) ?_ ?_
                  rotate_left
                  ·intro w'
                   go_simp
                   with_reducible rfl
                  rotate_left
                  ·simp only [Act.put, List.setIfInBounds_toArray, List.set_cons_zero, List.set_cons_succ, i64_w, i32_w]
                   rfl
                  refine pure_ (i := 8) (N := some 59) (v := ?_) (a' := ?_) #[true, true, true, false, false, true, true, true, true, false, false, false, false, false, false, false, false, false, false, false] rfl rfl (any_of HT_.out (by kernel_rfl)) (fun _ _ _ h => h) (Or.inl ⟨by rfl, ?_⟩) ?_ ?_
                  rotate_left
                  ·intro w'
                   go_simp
                   with_reducible rfl
                  rotate_left
                  ·simp only [Act.put, List.setIfInBounds_toArray, List.set_cons_zero, List.set_cons_succ, i64_w, i32_w]
                   rfl
                  refine pure_ (i := 11) (N := some 62) (v := ?_) (a' := ?_) #[true, true, true, false, false, true, true, true, true, false, false, true, false, false, false, false, false, false, false, false] rfl rfl (any_of HT_.out (by kernel_rfl)) (fun _ _ _ h => h) (Or.inl ⟨by rfl, ?_⟩) ?_ ?_
                  rotate_left
                  ·intro w'
                   go_simp
                   with_reducible rfl
                  rotate_left
                  ·simp only [Act.put, List.setIfInBounds_toArray, List.set_cons_zero, List.set_cons_succ, i64_w, i32_w]
                   rfl
                  refine pure_ (i := 12) (N := some 63) (v := ?_) (a' := ?_) #[true, true, true, false, false, true, true, true, true, false, false, true, true, false, false, false, false, false, false, false] rfl rfl (any_of HT_.out (by kernel_rfl)) (fun _ _ _ h => h) (Or.inl ⟨by rfl, ?_⟩) ?_ ?_
                  rotate_left
                  ·intro w'
                   go_simp
                   with_reducible rfl
                  rotate_left
                  ·simp only [Act.put, List.setIfInBounds_toArray, List.set_cons_zero, List.set_cons_succ, i64_w, i32_w]
                   rfl
                  refine pure_ (i := 13) (N := some 64) (v := ?_) (a' := ?_) #[true, true, true, false, false, true, true, true, true, false, false, true, true, true, false, false, false, false, false, false] rfl rfl (any_of HT_.out (by kernel_rfl)) (fun _ _ _ h => h) (Or.inl ⟨by rfl, ?_⟩) ?_ ?_
                  rotate_left
                  ·intro w'
                   go_simp
                   with_reducible rfl
                  rotate_left
                  ·simp only [Act.put, List.setIfInBounds_toArray, List.set_cons_zero, List.set_cons_succ, i64_w, i32_w]
                   rfl
                  refine pure_ (i := 14) (N := some 65) (v := ?_) (a' := ?_) #[true, true, true, false, false, true, true, true, true, false, false, true, true, true, true, false, false, false, false, false] rfl rfl (any_of HT_.out (by kernel_rfl)) (fun _ _ _ h => h) (Or.inl ⟨by rfl, ?_⟩) ?_ ?_
                  rotate_left
                  ·intro w'
                   go_simp
                   with_reducible rfl
                  rotate_left
                  ·simp only [Act.put, List.setIfInBounds_toArray, List.set_cons_zero, List.set_cons_succ, i64_w, i32_w]
                   rfl
                  refine take_ (i := 3) (N := some 54) (v := ?_) (a' := ?_) #[true, true, true, true, false, true, true, true, true, false, false, true, true, true, true, false, false, false, false, false] rfl rfl (take_ofW HT_.out HW_.out (by kernel_rfl)) (fun _ _ _ h => h) (Or.inl ⟨by rfl, ?_⟩) hHeld ?_ ?_
                  rotate_left
                  ·rintro w' ⟨s0, s1, s2⟩
                   go_simp
                   with_reducible rfl
                  rotate_left
                  ·simp only [Act.put, List.setIfInBounds_toArray, List.set_cons_zero, List.set_cons_succ, i64_w, i32_w]
                   rfl
                  refine pure_ (i := 4) (N := some 55) (v := ?_) (a' := ?_) #[true, true, true, true, true, true, true, true, true, false, false, true, true, true, true, false, false, false, false, false] rfl rfl (any_of HT_.out (by kernel_rfl)) (fun _ _ _ h => h) (Or.inl ⟨by rfl, ?_⟩) ?_ ?_
                  rotate_left
                  ·intro w'
                   go_simp
                   with_reducible rfl
                  rotate_left
                  ·simp only [Act.put, List.setIfInBounds_toArray, List.set_cons_zero, List.set_cons_succ, i64_w, i32_w]
                   rfl
                  refine take_ (i := 9) (N := some 60) (v := ?_) (a' := ?_) #[true, true, true, true, true, true, true, true, true, true, false, true, true, true, true, false, false, false, false, false] rfl rfl (take_ofW HT_.out HW_.out (by kernel_rfl)) (fun _ _ _ h => h) (Or.inl ⟨by rfl, ?_⟩) hHeld ?_ ?_
                  rotate_left
                  ·rintro w' ⟨s0, s1, s2⟩
                   go_simp
                   with_reducible rfl
                  rotate_left
                  ·simp only [Act.put, List.setIfInBounds_toArray, List.set_cons_zero, List.set_cons_succ, i64_w, i32_w]
                   rfl
                  refine pure_ (i := 10) (N := some 61) (v := ?_) (a' := ?_) #[true, true, true, true, true, true, true, true, true, true, true, true, true, true, true, false, false, false, false, false] rfl rfl (any_of HT_.out (by kernel_rfl)) (fun _ _ _ h => h) (Or.inl ⟨by rfl, ?_⟩) ?_ ?_
                  rotate_left
                  ·intro w'
                   go_simp
                   with_reducible rfl
                  rotate_left
                  ·simp only [Act.put, List.setIfInBounds_toArray, List.set_cons_zero, List.set_cons_succ, i64_w, i32_w]
                   rfl
                  refine take_ (i := 15) (N := some 66) (v := ?_) (a' := ?_) #[true, true, true, true, true, true, true, true, true, true, true, true, true, true, true, true, false, false, false, false] rfl rfl (take_ofW HT_.out HW_.out (by kernel_rfl)) (fun _ _ _ h => h) (Or.inl ⟨by rfl, ?_⟩) hHeld ?_ ?_
                  rotate_left
                  ·rintro w' ⟨s0, s1, s2⟩
                   go_simp
                   with_reducible rfl
                  rotate_left
                  ·simp only [Act.put, List.setIfInBounds_toArray, List.set_cons_zero, List.set_cons_succ, i64_w, i32_w]
                   rfl
                  refine join_ (σ := Nat) 1 #[true, true, true, true, true, true, true, true, true, true, true, true, true, true, true, true, true, true, true, false] (fun s_ => [(67, .int .i64 t163), (12, .pointer (some ⟨s_, 0, none⟩)), (68, .agg #[.int .i64 (wrap64 (rd l0 x1_2)), .int .i64 (wrap64 (rd l0 (ji16))), .int .i64 t163])]) (fun s_ w' => (w'.cell? (ad159.add (x1_2).toNat) = some (.int .u8 (rd l0 x1_2)) ∧ w'.cell? (ad159.add ((ji16)).toNat) = some (.int .u8 (rd l0 (ji16))) ∧ w'.cell? (ad159.add ((ji19)).toNat) = some (.int .u8 (rd l0 (ji19)))) ∧ (Kd.R k80 80 w' w.heap.size (fun k_ => k_ ≠ s_) u10 x10_2) ∧ (w'.heap[s_]? = some (.cells #[.int .i64 0, .int .i64 0, .int .i64 0] 80 (0, 0))) ∧ (w.heap.size ≤ s_) ∧ (w.heap.size ≤ s_) ∧ (Below w.heap.size w w')) ?_ ?_
                  rotate_left
                  ·intro hCont
                   refine two_ (i := 16) (j := 18) (Ni := some 67) (Nj := some 12) #[true, true, true, true, true, true, true, true, true, true, true, true, true, true, true, true, true, false, false, false] #[true, true, true, true, true, true, true, true, true, true, true, true, true, true, true, true, false, false, true, false] rfl rfl rfl rfl (two_of HT_.out (by kernel_rfl)) (by decide) (by decide) (fun K hK => ?_) (fun K hK => ?_)
                   ·skip
                    refine goes_ Try.func26 (by kernel_rfl) rfl #[.int .u8 (rd l0 (ji19))] (by rfl) rfl rfl (by (try simp only [List.map_toArray, List.map_cons, List.map_nil]); first | done | (simp only [hji19]; rfl) | rfl | (simp only [List.length_drop, List.length_take]; rfl)) ?_
                    with_reducible refine (quarrelref20_signed.calls (rd l0 (ji19)) t163 _ A22.out).mono ?_
                    rintro e w' ⟨rfl, ⟨nd, rfl⟩⟩
                    refine ⟨_, rfl, ?_⟩
                    refine hK.out _ _ ⟨((HB.out.cell (World.block_lt_of_cell? w _ hw160_0)).trans hw160_0), ((HB.out.cell (World.block_lt_of_cell? w _ hw161_0)).trans hw161_0), ((HB.out.cell (World.block_lt_of_cell? w _ hw162_0)).trans hw162_0)⟩ (fun hHeld => ?_)
                    clear hK K
                    refine norm_ (a' := ?_) ?_ ?_
                    rotate_left
                    ·show Act.put _ (some 67) _ = _
                     simp only [Act.put, List.setIfInBounds_toArray, List.set_cons_zero, List.set_cons_succ, i64_w, i32_w]
                     rfl
                    refine pure_ (i := 17) (N := some 68) (v := ?_) (a' := ?_) #[true, true, true, true, true, true, true, true, true, true, true, true, true, true, true, true, true, true, false, false] rfl rfl (any_of HT_.out (by kernel_rfl)) (fun _ _ _ h => h) (Or.inl ⟨by rfl, ?_⟩) ?_ ?_
                    rotate_left
                    ·intro w'
                     go_simp
                     with_reducible rfl
                    rotate_left
                    ·simp only [Act.put, List.setIfInBounds_toArray, List.set_cons_zero, List.set_cons_succ, i64_w, i32_w]
                     rfl
                    refine one_ (i := 18) (N := some 12) #[true, true, true, true, true, true, true, true, true, true, true, true, true, true, true, true, true, true, true, false] rfl rfl (one_of HT_.out (by kernel_rfl)) (by decide) (fun K hK => ?_)
                    refine box_step ?hg (N := 12) ?hd (cs := #[.int .i64 0, .int .i64 0, .int .i64 0]) (t := 80) ?hr ?_; (case hd => rfl); (case hg => rfl); (case hr => first | (go_simp; done) | (go_simp; rfl))
                    intro gb164 hg w37 hbox hb
                    have n0_ := Aside0.mk (Kd.R_below (Kd.R_elderB (by (with_reducible repeat (first | apply Kd.R_alloc | apply Kd.R_drewN | apply Kd.R_drew)); exact HO_10.out) gb164 (Nat.le_of_eq hg.symm)) hb)
                    have n1_ := Aside0.mk (below_step (by repeat (first | (with_reducible first | exact HB.out | apply bwA | apply bwN | apply bw1) | exact HB.out)) hb)
                    have n2_ := Aside0.mk (hbox)
                    have n3_ := Aside0.mk ((by rw [hg]; exact (below_size (by repeat (first | (with_reducible first | exact HB.out | apply bwA | apply bwN | apply bw1) | exact HB.out))) : w.heap.size ≤ gb164))
                    have n4_ := Aside0.mk ((by rw [hg]; exact (below_size (by repeat (first | (with_reducible first | exact HB.out | apply bwA | apply bwN | apply bw1) | exact HB.out))) : w.heap.size ≤ gb164))
                    clear HO_10
                    clear HB
                    have HO_10 := n0_
                    have HB := n1_
                    have BK164 := n2_
                    have GW164 := n3_
                    have GE164 := n4_
                    clear n0_ n1_ n2_ n3_ n4_
                    clear hb hbox hg
                    refine hK.out _ _ ⟨((HB.out.cell (World.block_lt_of_cell? w _ hw160_0)).trans hw160_0), ((HB.out.cell (World.block_lt_of_cell? w _ hw161_0)).trans hw161_0), ((HB.out.cell (World.block_lt_of_cell? w _ hw162_0)).trans hw162_0)⟩ (fun hHeld => ?_)
                    clear hK K
                    refine norm_ (a' := ?_) ?_ ?_
                    rotate_left
                    ·show Act.put _ (some 12) _ = _
                     simp only [Act.put, List.setIfInBounds_toArray, List.set_cons_zero, List.set_cons_succ, i64_w, i32_w]
                     rfl
                    exact norm_ (by simp only [putAll, Act.put, List.setIfInBounds_toArray, List.set_cons_zero, List.set_cons_succ]) (hCont (gb164) _ ⟨hHeld, (by (with_reducible repeat (first | apply Kd.R_alloc | apply Kd.R_drewN | apply Kd.R_drew)); exact Kd.R_mono HO_10.out (fun _ hk => hk.2)), (by (with_reducible repeat (first | refine blk_drewN ?_ _ | refine blk_drew ?_ | refine blk_alloc ?_ _)); exact BK164.out), GW164.out, GE164.out, (by repeat (first | (with_reducible first | exact HB.out | apply bwA | apply bwN | apply bw1 | refine bwS ?_ GE164.out) | exact HB.out))⟩)
                   ·skip
                    refine box_step ?hg (N := 12) ?hd (cs := #[.int .i64 0, .int .i64 0, .int .i64 0]) (t := 80) ?hr ?_; (case hd => rfl); (case hg => rfl); (case hr => first | (go_simp; done) | (go_simp; rfl))
                    intro gb164 hg w37 hbox hb
                    have n0_ := Aside0.mk (Kd.R_below (Kd.R_elderB (by (with_reducible repeat (first | apply Kd.R_alloc | apply Kd.R_drewN | apply Kd.R_drew)); exact HO_10.out) gb164 (Nat.le_of_eq hg.symm)) hb)
                    have n1_ := Aside0.mk (below_step (by repeat (first | (with_reducible first | exact HB.out | apply bwA | apply bwN | apply bw1) | exact HB.out)) hb)
                    have n2_ := Aside0.mk (hbox)
                    have n3_ := Aside0.mk ((by rw [hg]; exact (below_size (by repeat (first | (with_reducible first | exact HB.out | apply bwA | apply bwN | apply bw1) | exact HB.out))) : w.heap.size ≤ gb164))
                    have n4_ := Aside0.mk ((by rw [hg]; exact (below_size (by repeat (first | (with_reducible first | exact HB.out | apply bwA | apply bwN | apply bw1) | exact HB.out))) : w.heap.size ≤ gb164))
                    clear HO_10
                    clear HB
                    have HO_10 := n0_
                    have HB := n1_
                    have BK164 := n2_
                    have GW164 := n3_
                    have GE164 := n4_
                    clear n0_ n1_ n2_ n3_ n4_
                    clear hb hbox hg
                    refine hK.out _ _ ⟨((HB.out.cell (World.block_lt_of_cell? w _ hw160_0)).trans hw160_0), ((HB.out.cell (World.block_lt_of_cell? w _ hw161_0)).trans hw161_0), ((HB.out.cell (World.block_lt_of_cell? w _ hw162_0)).trans hw162_0)⟩ (fun hHeld => ?_)
                    clear hK K
                    refine norm_ (a' := ?_) ?_ ?_
                    rotate_left
                    ·show Act.put _ (some 12) _ = _
                     simp only [Act.put, List.setIfInBounds_toArray, List.set_cons_zero, List.set_cons_succ, i64_w, i32_w]
                     rfl
                    refine one_ (i := 16) (N := some 67) #[true, true, true, true, true, true, true, true, true, true, true, true, true, true, true, true, true, false, true, false] rfl rfl (one_of HT_.out (by kernel_rfl)) (by decide) (fun K hK => ?_)
                    refine goes_ Try.func26 (by kernel_rfl) rfl #[.int .u8 (rd l0 (ji19))] (by rfl) rfl rfl (by (try simp only [List.map_toArray, List.map_cons, List.map_nil]); first | done | (simp only [hji19]; rfl) | rfl | (simp only [List.length_drop, List.length_take]; rfl)) ?_
                    with_reducible refine (quarrelref20_signed.calls (rd l0 (ji19)) t163 _ A22.out).mono ?_
                    rintro e w' ⟨rfl, ⟨nd, rfl⟩⟩
                    refine ⟨_, rfl, ?_⟩
                    refine hK.out _ _ ⟨((HB.out.cell (World.block_lt_of_cell? w _ hw160_0)).trans hw160_0), ((HB.out.cell (World.block_lt_of_cell? w _ hw161_0)).trans hw161_0), ((HB.out.cell (World.block_lt_of_cell? w _ hw162_0)).trans hw162_0)⟩ (fun hHeld => ?_)
                    clear hK K
                    refine norm_ (a' := ?_) ?_ ?_
                    rotate_left
                    ·show Act.put _ (some 67) _ = _
                     simp only [Act.put, List.setIfInBounds_toArray, List.set_cons_zero, List.set_cons_succ, i64_w, i32_w]
                     rfl
                    refine pure_ (i := 17) (N := some 68) (v := ?_) (a' := ?_) #[true, true, true, true, true, true, true, true, true, true, true, true, true, true, true, true, true, true, true, false] rfl rfl (any_of HT_.out (by kernel_rfl)) (fun _ _ _ h => h) (Or.inl ⟨by rfl, ?_⟩) ?_ ?_
                    rotate_left
                    ·intro w'
                     go_simp
                     with_reducible rfl
                    rotate_left
                    ·simp only [Act.put, List.setIfInBounds_toArray, List.set_cons_zero, List.set_cons_succ, i64_w, i32_w]
                     rfl
                    exact norm_ (by simp only [putAll, Act.put, List.setIfInBounds_toArray, List.set_cons_zero, List.set_cons_succ]) (hCont (gb164) _ ⟨hHeld, (by (with_reducible repeat (first | apply Kd.R_alloc | apply Kd.R_drewN | apply Kd.R_drew)); exact Kd.R_mono HO_10.out (fun _ hk => hk.2)), (by (with_reducible repeat (first | refine blk_drewN ?_ _ | refine blk_drew ?_ | refine blk_alloc ?_ _)); exact BK164.out), GW164.out, GE164.out, (by repeat (first | (with_reducible first | exact HB.out | apply bwA | apply bwN | apply bw1 | refine bwS ?_ GE164.out) | exact HB.out))⟩)
                  rintro gb164 w38 ⟨hS_, h0_, h1_, h2_, h3_, h4_⟩
                  have n0_ : Aside0 (Kd.R k80 80 w38 w.heap.size (fun k_ => k_ ≠ gb164) u10 x10_2) := ⟨h0_⟩
                  have n1_ : Aside0 (w38.heap[gb164]? = some (.cells #[.int .i64 0, .int .i64 0, .int .i64 0] 80 (0, 0))) := ⟨h1_⟩
                  have n2_ : Aside0 (w.heap.size ≤ gb164) := ⟨h2_⟩
                  have n3_ : Aside0 (w.heap.size ≤ gb164) := ⟨h3_⟩
                  have n4_ : Aside0 (Below w.heap.size w w38) := ⟨h4_⟩
                  clear HO_10
                  clear HB
                  clear h0_ h1_ h2_ h3_ h4_
                  have HO_10 := n0_
                  have BK164 := n1_
                  have GW164 := n2_
                  have GE164 := n3_
                  have HB := n4_
                  clear n0_ n1_ n2_ n3_ n4_
                  have hHeld : w38.cell? (ad159.add (x1_2).toNat) = some (.int .u8 (rd l0 x1_2)) ∧ w38.cell? (ad159.add ((ji16)).toNat) = some (.int .u8 (rd l0 (ji16))) ∧ w38.cell? (ad159.add ((ji19)).toNat) = some (.int .u8 (rd l0 (ji19))) := hS_
                  refine norm_ (a' := ?_) ?_ ?_
                  rotate_left
                  ·simp only [putAll, Act.put, List.setIfInBounds_toArray, List.set_cons_zero, List.set_cons_succ]
                   rfl
                  refine one_ (i := 19) (N := none) #[true, true, true, true, true, true, true, true, true, true, true, true, true, true, true, true, true, true, true, true] rfl rfl (one_of HT_.out (by kernel_rfl)) (by decide) (fun K hK => ?_)
                  have hs39 : w38.cell? ⟨gb164, 0, none⟩ = some (.int .i64 0) := (blk_cell BK164.out 0).trans rfl
                  have hfs39 := blk_frozen BK164.out 0
                  have hs40 : w38.cell? ⟨gb164, 1, none⟩ = some (.int .i64 0) := (blk_cell BK164.out 1).trans rfl
                  have hfs40 := blk_frozen BK164.out 1
                  have hs41 : w38.cell? ⟨gb164, 2, none⟩ = some (.int .i64 0) := (blk_cell BK164.out 2).trans rfl
                  have hfs41 := blk_frozen BK164.out 2
                  refine skip_ (w1 := ?_) (by rfl) rfl ?_ ?_
                  rotate_left
                  ·go_simp
                   rfl
                  refine hK.out _ _ ⟨((cell_far (p := ⟨gb164, _, none⟩) (by first | exact Nat.ne_of_lt (Nat.lt_of_lt_of_le (by have := World.block_lt_of_cell? _ _ hw160_0; first | rwa [add_block] at this | exact this) GW164.out) | (rw [add_block]; exact Nat.ne_of_lt (Nat.lt_of_lt_of_le (by have := World.block_lt_of_cell? _ _ hw160_0; first | rwa [add_block] at this | exact this) GW164.out)) | (show (Addr.add _ _).block ≠ _; rw [add_block]; exact Nat.ne_of_lt (Nat.lt_of_lt_of_le (by have := World.block_lt_of_cell? _ _ hw160_0; first | rwa [add_block] at this | exact this) GW164.out)) | (dsimp only; exact Nat.ne_of_lt (Nat.lt_of_lt_of_le (by have := World.block_lt_of_cell? _ _ hw160_0; first | rwa [add_block] at this | exact this) GW164.out))) _).trans (((cell_far (p := ⟨gb164, _, none⟩) (by first | exact Nat.ne_of_lt (Nat.lt_of_lt_of_le (by have := World.block_lt_of_cell? _ _ hw160_0; first | rwa [add_block] at this | exact this) GW164.out) | (rw [add_block]; exact Nat.ne_of_lt (Nat.lt_of_lt_of_le (by have := World.block_lt_of_cell? _ _ hw160_0; first | rwa [add_block] at this | exact this) GW164.out)) | (show (Addr.add _ _).block ≠ _; rw [add_block]; exact Nat.ne_of_lt (Nat.lt_of_lt_of_le (by have := World.block_lt_of_cell? _ _ hw160_0; first | rwa [add_block] at this | exact this) GW164.out)) | (dsimp only; exact Nat.ne_of_lt (Nat.lt_of_lt_of_le (by have := World.block_lt_of_cell? _ _ hw160_0; first | rwa [add_block] at this | exact this) GW164.out))) _).trans (((cell_far (p := ⟨gb164, _, none⟩) (by first | exact Nat.ne_of_lt (Nat.lt_of_lt_of_le (by have := World.block_lt_of_cell? _ _ hw160_0; first | rwa [add_block] at this | exact this) GW164.out) | (rw [add_block]; exact Nat.ne_of_lt (Nat.lt_of_lt_of_le (by have := World.block_lt_of_cell? _ _ hw160_0; first | rwa [add_block] at this | exact this) GW164.out)) | (show (Addr.add _ _).block ≠ _; rw [add_block]; exact Nat.ne_of_lt (Nat.lt_of_lt_of_le (by have := World.block_lt_of_cell? _ _ hw160_0; first | rwa [add_block] at this | exact this) GW164.out)) | (dsimp only; exact Nat.ne_of_lt (Nat.lt_of_lt_of_le (by have := World.block_lt_of_cell? _ _ hw160_0; first | rwa [add_block] at this | exact this) GW164.out))) _).trans (hHeld.1)))))), ((cell_far (p := ⟨gb164, _, none⟩) (by first | exact Nat.ne_of_lt (Nat.lt_of_lt_of_le (by have := World.block_lt_of_cell? _ _ hw161_0; first | rwa [add_block] at this | exact this) GW164.out) | (rw [add_block]; exact Nat.ne_of_lt (Nat.lt_of_lt_of_le (by have := World.block_lt_of_cell? _ _ hw161_0; first | rwa [add_block] at this | exact this) GW164.out)) | (show (Addr.add _ _).block ≠ _; rw [add_block]; exact Nat.ne_of_lt (Nat.lt_of_lt_of_le (by have := World.block_lt_of_cell? _ _ hw161_0; first | rwa [add_block] at this | exact this) GW164.out)) | (dsimp only; exact Nat.ne_of_lt (Nat.lt_of_lt_of_le (by have := World.block_lt_of_cell? _ _ hw161_0; first | rwa [add_block] at this | exact this) GW164.out))) _).trans (((cell_far (p := ⟨gb164, _, none⟩) (by first | exact Nat.ne_of_lt (Nat.lt_of_lt_of_le (by have := World.block_lt_of_cell? _ _ hw161_0; first | rwa [add_block] at this | exact this) GW164.out) | (rw [add_block]; exact Nat.ne_of_lt (Nat.lt_of_lt_of_le (by have := World.block_lt_of_cell? _ _ hw161_0; first | rwa [add_block] at this | exact this) GW164.out)) | (show (Addr.add _ _).block ≠ _; rw [add_block]; exact Nat.ne_of_lt (Nat.lt_of_lt_of_le (by have := World.block_lt_of_cell? _ _ hw161_0; first | rwa [add_block] at this | exact this) GW164.out)) | (dsimp only; exact Nat.ne_of_lt (Nat.lt_of_lt_of_le (by have := World.block_lt_of_cell? _ _ hw161_0; first | rwa [add_block] at this | exact this) GW164.out))) _).trans (((cell_far (p := ⟨gb164, _, none⟩) (by first | exact Nat.ne_of_lt (Nat.lt_of_lt_of_le (by have := World.block_lt_of_cell? _ _ hw161_0; first | rwa [add_block] at this | exact this) GW164.out) | (rw [add_block]; exact Nat.ne_of_lt (Nat.lt_of_lt_of_le (by have := World.block_lt_of_cell? _ _ hw161_0; first | rwa [add_block] at this | exact this) GW164.out)) | (show (Addr.add _ _).block ≠ _; rw [add_block]; exact Nat.ne_of_lt (Nat.lt_of_lt_of_le (by have := World.block_lt_of_cell? _ _ hw161_0; first | rwa [add_block] at this | exact this) GW164.out)) | (dsimp only; exact Nat.ne_of_lt (Nat.lt_of_lt_of_le (by have := World.block_lt_of_cell? _ _ hw161_0; first | rwa [add_block] at this | exact this) GW164.out))) _).trans (hHeld.2.1)))))), ((cell_far (p := ⟨gb164, _, none⟩) (by first | exact Nat.ne_of_lt (Nat.lt_of_lt_of_le (by have := World.block_lt_of_cell? _ _ hw162_0; first | rwa [add_block] at this | exact this) GW164.out) | (rw [add_block]; exact Nat.ne_of_lt (Nat.lt_of_lt_of_le (by have := World.block_lt_of_cell? _ _ hw162_0; first | rwa [add_block] at this | exact this) GW164.out)) | (show (Addr.add _ _).block ≠ _; rw [add_block]; exact Nat.ne_of_lt (Nat.lt_of_lt_of_le (by have := World.block_lt_of_cell? _ _ hw162_0; first | rwa [add_block] at this | exact this) GW164.out)) | (dsimp only; exact Nat.ne_of_lt (Nat.lt_of_lt_of_le (by have := World.block_lt_of_cell? _ _ hw162_0; first | rwa [add_block] at this | exact this) GW164.out))) _).trans (((cell_far (p := ⟨gb164, _, none⟩) (by first | exact Nat.ne_of_lt (Nat.lt_of_lt_of_le (by have := World.block_lt_of_cell? _ _ hw162_0; first | rwa [add_block] at this | exact this) GW164.out) | (rw [add_block]; exact Nat.ne_of_lt (Nat.lt_of_lt_of_le (by have := World.block_lt_of_cell? _ _ hw162_0; first | rwa [add_block] at this | exact this) GW164.out)) | (show (Addr.add _ _).block ≠ _; rw [add_block]; exact Nat.ne_of_lt (Nat.lt_of_lt_of_le (by have := World.block_lt_of_cell? _ _ hw162_0; first | rwa [add_block] at this | exact this) GW164.out)) | (dsimp only; exact Nat.ne_of_lt (Nat.lt_of_lt_of_le (by have := World.block_lt_of_cell? _ _ hw162_0; first | rwa [add_block] at this | exact this) GW164.out))) _).trans (((cell_far (p := ⟨gb164, _, none⟩) (by first | exact Nat.ne_of_lt (Nat.lt_of_lt_of_le (by have := World.block_lt_of_cell? _ _ hw162_0; first | rwa [add_block] at this | exact this) GW164.out) | (rw [add_block]; exact Nat.ne_of_lt (Nat.lt_of_lt_of_le (by have := World.block_lt_of_cell? _ _ hw162_0; first | rwa [add_block] at this | exact this) GW164.out)) | (show (Addr.add _ _).block ≠ _; rw [add_block]; exact Nat.ne_of_lt (Nat.lt_of_lt_of_le (by have := World.block_lt_of_cell? _ _ hw162_0; first | rwa [add_block] at this | exact this) GW164.out)) | (dsimp only; exact Nat.ne_of_lt (Nat.lt_of_lt_of_le (by have := World.block_lt_of_cell? _ _ hw162_0; first | rwa [add_block] at this | exact this) GW164.out))) _).trans (hHeld.2.2))))))⟩ (fun hHeld => ?_)
                  clear hK K
                  refine done_ (done_of HT_.out (by kernel_rfl)) ?_
                  have hcz42_0 : w38.cell? ⟨gb164, 0, none⟩ = some (.int .i64 0) := (blk_cell BK164.out 0).trans rfl
                  have hcz42_1 : w38.cell? ⟨gb164, 1, none⟩ = some (.int .i64 0) := (blk_cell BK164.out 1).trans rfl
                  have hcz42_2 : w38.cell? ⟨gb164, 2, none⟩ = some (.int .i64 0) := (blk_cell BK164.out 2).trans rfl
                  have hfz42_0 := blk_frozen BK164.out 0
                  have hfz42_1 := blk_frozen BK164.out 1
                  have hfz42_2 := blk_frozen BK164.out 2
                  try go_wp2_with (first | ((with_reducible refine gate_callee (f := 45) rfl ?_); refine goesL_ (some 71) rfl rfl Try.func45 (by kernel_rfl) rfl #[.agg #[.int .i64 (wrap64 (rd l0 x1_2)), .int .i64 (wrap64 (rd l0 (ji16))), .int .i64 t163], .int .i64 a2] rfl (by (try simp only [List.map_toArray, List.map_cons, List.map_nil]); first | done | (simp only [hji16]; rfl) | rfl | (simp only [List.length_drop, List.length_take]; rfl)) ?_; (with_reducible refine (quarrelref11_Ok.calls k2 (wrap64 (rd l0 x1_2)) (wrap64 (rd l0 (ji16))) t163 a2 false _ A23.out).mono ?_); rintro e w43 ⟨rfl, hb⟩; refine ⟨_, rfl, ?_⟩; have n0_ := Aside0.mk (Kd.R_below (by (with_reducible repeat (first | apply Kd.R_alloc | apply Kd.R_drewN | apply Kd.R_drew)); exact (Kd.R_mono (Kd.R_far (p := ⟨gb164, 2, none⟩) (Kd.R_far (p := ⟨gb164, 1, none⟩) (Kd.R_far (p := ⟨gb164, 0, none⟩) (Kd.R_mono HO_10.out (fun k_ hk => (⟨hk, hk⟩ : _ ∧ k_ ≠ gb164))) (fun _ hk => hk.2) (.int .i64 (wrap64 (rd l0 x1_2)))) (fun _ hk => hk.2) (.int .i64 (wrap64 (rd l0 (ji16))))) (fun _ hk => hk.2) (.int .i64 t163)) (fun _ h_ => h_.1))) hb); have n1_ := Aside0.mk (blk_below (g := gb164) (o := .cells #[.int .i64 (wrap64 (rd l0 x1_2)), .int .i64 (wrap64 (rd l0 (ji16))), .int .i64 t163] 80 (0, 0)) (by (with_reducible repeat (first | refine blk_drewN ?_ _ | refine blk_drew ?_ | refine blk_alloc ?_ _)); refine blk_put (cs := #[.int .i64 (wrap64 (rd l0 x1_2)), .int .i64 (wrap64 (rd l0 (ji16))), .int .i64 0]) ?_ 2 _ rfl; (with_reducible repeat (first | refine blk_drewN ?_ _ | refine blk_drew ?_ | refine blk_alloc ?_ _)); refine blk_put (cs := #[.int .i64 (wrap64 (rd l0 x1_2)), .int .i64 0, .int .i64 0]) ?_ 1 _ rfl; (with_reducible repeat (first | refine blk_drewN ?_ _ | refine blk_drew ?_ | refine blk_alloc ?_ _)); refine blk_put (cs := #[.int .i64 0, .int .i64 0, .int .i64 0]) ?_ 0 _ rfl; (with_reducible repeat (first | refine blk_drewN ?_ _ | refine blk_drew ?_ | refine blk_alloc ?_ _)); exact BK164.out) hb); have n2_ := Aside0.mk (below_step (by repeat (first | (with_reducible first | exact HB.out | apply bwA | apply bwN | apply bw1 | refine bwS ?_ GE164.out) | exact HB.out)) hb); clear HO_10; clear BK164; clear HB; have HO_10 := n0_; have BK164 := n1_; have HB := n2_; clear n0_ n1_ n2_; (try clear hb); (try clear hb2); (try clear hk); (try clear hi)))
                  go_ret3
                  exact ⟨_, by first | rfl | (simp [errW_none, errW_some] <;> rfl) | (simp only [← hji16, ← hji19]; first | rfl | (simp [errW_none, errW_some] <;> rfl)) | (simp [*, errW_none, errW_some] <;> rfl), by first | exact Kd.R_nil _ _ _ _ _ | exact Kd.N_nil _ _ _ _ _ | exact Kd.V_nil _ _ _ _ _ | exact Kd.Q_nil _ _ _ _ _ | exact Kd.S_nil _ _ _ _ _, by repeat (first | (with_reducible first | exact HB.out | apply bwA | apply bwN | apply bw1 | refine bwS ?_ GE164.out) | exact HB.out)⟩
                ·rw [if_neg c21] at H
                 exact absurd H (by simp)
               ·rw [if_neg c20] at H
                exact absurd H (by simp)
              ·rw [if_neg c18] at H
               exact absurd H (by simp)
             ·rw [if_neg c17] at H
              exact absurd H (by simp)
            ·rw [if_neg c15] at H
             exact absurd H (by simp)
           ·rw [if_neg c14] at H
            exact absurd H (by simp)
         ·rw [if_neg c12] at H
          have c12b0 : decide (x11_2 < (wrap64 (rd l0 a1))) = false := decide_eq_false c12
          clear c12
          simp only [Option.some.injEq, Prod.mk.injEq] at H
          obtain ⟨rfl, rfl, rfl⟩ := H
          go_wp2
          go_ret3
          exact ⟨_, by first | rfl | (simp [errW_none, errW_some] <;> rfl) | (simp [*, errW_none, errW_some] <;> rfl), by (with_reducible repeat (first | apply Kd.R_alloc | apply Kd.R_drewN | apply Kd.R_drew)); exact HO_10.out, by repeat (first | (with_reducible first | exact HB.out | apply bwA | apply bwN | apply bw1) | exact HB.out)⟩
      ·rw [if_neg c11] at H
       exact absurd H (by simp)
     ·rw [if_neg c10] at H
      exact absurd H (by simp)
end Go.Proofs.Ythfkgnkojhocbaa.S
end
section
namespace Go.Proofs.Ythfkgnkojhocbaa.S
open Go.RowKit Go.Proofs.YthfkgnkojhocbaaW.PrintWords Go.Proofs.YthfkgnkojhocbaaW.PrintLast Go.Proofs.YthfkgnkojhocbaaW.PrintMore
attribute [local go_sem] max2_int min2_int max_two min_two max_three min_three max_four min_four
set_option linter.unusedVariables false
set_option linter.unusedSimpArgs false
theorem info60 : (Try.prog.info? 60).map (fun i => (i.zero, i.size, i.bytes)) = some (some (.slice none 0 0), 1, 24) := by kernel_rfl
theorem info61 : (Try.prog.info? 61).map (fun i => (i.zero, i.size, i.bytes)) = some (some (.slice none 0 0), 1, 24) := by kernel_rfl
mutual
def quarrelref20_Get.l0 : Nat → List Int → Int → Int → Int → Int → Int → Int → Int → Int → Int → Int → Int → Int → Int → Int → List Int → Option (Int × Int × Int × Int × Int × Int × List Int × List Int × (List (List (List (S80)))) × List Int × Int × Int)
  | 0, _, _, _, _, _, _, _, _, _, _, _, _, _, _, _, _ => none
  | k + 1, x0, x7, x8, x131000, x131001, x131002, x131003, x131004, x131005, x133000, x133001, x133002, x133003, x133004, x133005, x133006 => if x8 < x131000 then (if x7 ≥ (x0.length : Int) then (some (0, 0, 0, 0, 0, 0, ([] : List Int), ([] : List Int), ([] : List (List (List (S80)))), ([] : List Int), (x0.length : Int), 9)) else (if 0 ≤ x7 then (if x7 < (x0.length : Int) then ((quarrelref20_signed.f (rd x0 x7)).bind fun t134 => (if x133006.length < 17592186044416 then (quarrelref20_Get.l0 k x0 (wrap64 (x7 + 1)) (wrap64 (x8 + 1)) x131000 x131001 x131002 x131003 x131004 x131005 x133000 x133001 x133002 x133003 x133004 x133005 (x133006 ++ [t134])) else (none))) else (none)) else (none))) else (quarrelref20_Get.l1 k x0 x7 0 x131000 x131001 x131002 x131003 x131004 x131005 x133000 x133001 x133002 x133003 x133004 x133005 x133006 ([] : List (List (List (S80)))))
def quarrelref20_Get.l1 : Nat → List Int → Int → Int → Int → Int → Int → Int → Int → Int → Int → Int → Int → Int → Int → Int → List Int → List (List (List (S80))) → Option (Int × Int × Int × Int × Int × Int × List Int × List Int × (List (List (List (S80)))) × List Int × Int × Int)
  | 0, _, _, _, _, _, _, _, _, _, _, _, _, _, _, _, _, _ => none
  | k + 1, x0, x7, x9, x131000, x131001, x131002, x131003, x131004, x131005, x133000, x133001, x133002, x133003, x133004, x133005, x133006, x133008 => if x9 < x131001 then (if x7 ≥ (x0.length : Int) then (some (0, 0, 0, 0, 0, 0, ([] : List Int), ([] : List Int), ([] : List (List (List (S80)))), ([] : List Int), (x0.length : Int), 9)) else (if 0 ≤ x7 then (if x7 < (x0.length : Int) then (if (rd x0 x7) > 6 then (some (0, 0, 0, 0, 0, 0, ([] : List Int), ([] : List Int), ([] : List (List (List (S80)))), ([] : List Int), x7, 3)) else (quarrelref20_Get.l2 k x0 (wrap64 (x7 + 1)) x9 (wrap64 (rd x0 x7)) ([] : List (List (S80))) 0 x131000 x131001 x131002 x131003 x131004 x131005 x133000 x133001 x133002 x133003 x133004 x133005 x133006 x133008)) else (none)) else (none))) else (if x7 ≥ (x0.length : Int) then (quarrelref20_Get.j3 k x0 x7 true x133000 x133001 x133002 x133003 x133004 x133005 x133006 x133008) else (if 0 ≤ x7 then (if x7 < (x0.length : Int) then (quarrelref20_Get.j3 k x0 x7 (decide ((wrap64 ((wrap64 ((x0.length : Int) - x7)) - 1)) < (wrap64 (rd x0 x7)))) x133000 x133001 x133002 x133003 x133004 x133005 x133006 x133008) else (none)) else (none)))
def quarrelref20_Get.l2 : Nat → List Int → Int → Int → Int → List (List (S80)) → Int → Int → Int → Int → Int → Int → Int → Int → Int → Int → Int → Int → Int → List Int → List (List (List (S80))) → Option (Int × Int × Int × Int × Int × Int × List Int × List Int × (List (List (List (S80)))) × List Int × Int × Int)
  | 0, _, _, _, _, _, _, _, _, _, _, _, _, _, _, _, _, _, _, _, _ => none
  | k + 1, x0, x7, x9, x10, x11, x12, x131000, x131001, x131002, x131003, x131004, x131005, x133000, x133001, x133002, x133003, x133004, x133005, x133006, x133008 => if x12 < x10 then ((quarrelref20_txn.f k x0 x7 x131000).bind fun bt140 => (if bt140.2.2 = 0 then (if x11.length < 5864062014805 then (quarrelref20_Get.l2 k x0 bt140.2.1 x9 x10 (x11 ++ [bt140.1]) (wrap64 (x12 + 1)) x131000 x131001 x131002 x131003 x131004 x131005 x133000 x133001 x133002 x133003 x133004 x133005 x133006 x133008) else (none)) else (some (0, 0, 0, 0, 0, 0, ([] : List Int), ([] : List Int), ([] : List (List (List (S80)))), ([] : List Int), bt140.2.1, bt140.2.2)))) else (if x133008.length < 5864062014805 then (quarrelref20_Get.l1 k x0 x7 (wrap64 (x9 + 1)) x131000 x131001 x131002 x131003 x131004 x131005 x133000 x133001 x133002 x133003 x133004 x133005 x133006 (x133008 ++ [x11])) else (none))
def quarrelref20_Get.j3 : Nat → List Int → Int → Bool → Int → Int → Int → Int → Int → Int → List Int → List (List (List (S80))) → Option (Int × Int × Int × Int × Int × Int × List Int × List Int × (List (List (List (S80)))) × List Int × Int × Int)
  | 0, _, _, _, _, _, _, _, _, _, _, _ => none
  | k + 1, x0, x7, x168, x133000, x133001, x133002, x133003, x133004, x133005, x133006, x133008 => if x168 = true then (some (0, 0, 0, 0, 0, 0, ([] : List Int), ([] : List Int), ([] : List (List (List (S80)))), ([] : List Int), (x0.length : Int), 9)) else (if 0 ≤ x7 then (if x7 < (x0.length : Int) then (quarrelref20_Get.l3 k x0 (wrap64 (x7 + 1)) (wrap64 (rd x0 x7)) 0 x133000 x133001 x133002 x133003 x133004 x133005 x133006 ([] : List Int) x133008) else (none)) else (none))
def quarrelref20_Get.l3 : Nat → List Int → Int → Int → Int → Int → Int → Int → Int → Int → Int → List Int → List Int → List (List (List (S80))) → Option (Int × Int × Int × Int × Int × Int × List Int × List Int × (List (List (List (S80)))) × List Int × Int × Int)
  | 0, _, _, _, _, _, _, _, _, _, _, _, _, _ => none
  | k + 1, x0, x7, x16, x17, x133000, x133001, x133002, x133003, x133004, x133005, x133006, x133007, x133008 => if x17 < x16 then (if 0 ≤ x7 then (if x7 < (x0.length : Int) then (if x133007.length < 140737488355328 then (quarrelref20_Get.l3 k x0 (wrap64 (x7 + 1)) x16 (wrap64 (x17 + 1)) x133000 x133001 x133002 x133003 x133004 x133005 x133006 (x133007 ++ [rd x0 x7]) x133008) else (none)) else (none)) else (none)) else (quarrelref20_Get.l4 k x0 x7 x133000 x133001 x133002 x133003 x133004 x133005 x133006 x133007 x133008 ([] : List Int))
def quarrelref20_Get.l4 : Nat → List Int → Int → Int → Int → Int → Int → Int → Int → List Int → List Int → List (List (List (S80))) → List Int → Option (Int × Int × Int × Int × Int × Int × List Int × List Int × (List (List (List (S80)))) × List Int × Int × Int)
  | 0, _, _, _, _, _, _, _, _, _, _, _, _ => none
  | k + 1, x0, x7, x133000, x133001, x133002, x133003, x133004, x133005, x133006, x133007, x133008, x133009 => if x7 < (x0.length : Int) then (if 0 ≤ x7 then (if x133009.length < 17592186044416 then (quarrelref20_Get.l4 k x0 (wrap64 (x7 + 1)) x133000 x133001 x133002 x133003 x133004 x133005 x133006 x133007 x133008 (x133009 ++ [wrap64 (rd x0 x7)])) else (none)) else (none)) else (some (x133000, x133001, x133002, x133003, x133004, x133005, x133006, x133007, x133008, x133009, (-1), 0))
end
def quarrelref20_Get.f (k : Nat) (l0 : List Int) : Option (Int × Int × Int × Int × Int × Int × List Int × List Int × (List (List (List (S80)))) × List Int × Int × Int) := if (l0.length : Int) < 7 then (some (0, 0, 0, 0, 0, 0, ([] : List Int), ([] : List Int), ([] : List (List (List (S80)))), ([] : List Int), (l0.length : Int), 9)) else (if 0 < (l0.length : Int) then (if 1 < (l0.length : Int) then (if 2 < (l0.length : Int) then (if 3 < (l0.length : Int) then (if 4 < (l0.length : Int) then (if 5 < (l0.length : Int) then (if 6 < (l0.length : Int) then ((quarrelref13_Check.f k (wrap64 (rd l0 0)) (wrap64 (rd l0 1)) (wrap64 ((wrap64 ((wrap64 (rd l0 2)) * 256)) + (wrap64 (rd l0 3)))) (wrap64 (rd l0 4)) (wrap64 (rd l0 5)) (wrap64 (rd l0 6))).bind fun t131 => (if t131 = true then (if (wrap64 ((wrap64 ((wrap64 (rd l0 2)) * 256)) + (wrap64 (rd l0 3)))) < (wrap64 ((wrap64 (rd l0 0)) + (wrap64 (rd l0 0)))) then (some (0, 0, 0, 0, 0, 0, ([] : List Int), ([] : List Int), ([] : List (List (List (S80)))), ([] : List Int), 2, 4)) else (quarrelref20_Get.l0 k l0 7 0 (wrap64 (rd l0 0)) (wrap64 (rd l0 1)) (wrap64 ((wrap64 ((wrap64 (rd l0 2)) * 256)) + (wrap64 (rd l0 3)))) (wrap64 (rd l0 4)) (wrap64 (rd l0 5)) (wrap64 (rd l0 6)) (wrap64 (rd l0 0)) (wrap64 (rd l0 1)) (wrap64 ((wrap64 ((wrap64 (rd l0 2)) * 256)) + (wrap64 (rd l0 3)))) (wrap64 (rd l0 4)) (wrap64 (rd l0 5)) (wrap64 (rd l0 6)) ([] : List Int))) else (some (0, 0, 0, 0, 0, 0, ([] : List Int), ([] : List Int), ([] : List (List (List (S80)))), ([] : List Int), 0, 2)))) else (none)) else (none)) else (none)) else (none)) else (none)) else (none)) else (none))
theorem quarrelref20_Get.mono_l : ∀ k, (∀ y0 y1 y2 y3 y4 y5 y6 y7 y8 y9 y10 y11 y12 y13 y14 y15, LeO (quarrelref20_Get.l0 k y0 y1 y2 y3 y4 y5 y6 y7 y8 y9 y10 y11 y12 y13 y14 y15) (quarrelref20_Get.l0 (k + 1) y0 y1 y2 y3 y4 y5 y6 y7 y8 y9 y10 y11 y12 y13 y14 y15)) ∧ (∀ y0 y1 y2 y3 y4 y5 y6 y7 y8 y9 y10 y11 y12 y13 y14 y15 y16, LeO (quarrelref20_Get.l1 k y0 y1 y2 y3 y4 y5 y6 y7 y8 y9 y10 y11 y12 y13 y14 y15 y16) (quarrelref20_Get.l1 (k + 1) y0 y1 y2 y3 y4 y5 y6 y7 y8 y9 y10 y11 y12 y13 y14 y15 y16)) ∧ (∀ y0 y1 y2 y3 y4 y5 y6 y7 y8 y9 y10 y11 y12 y13 y14 y15 y16 y17 y18 y19, LeO (quarrelref20_Get.l2 k y0 y1 y2 y3 y4 y5 y6 y7 y8 y9 y10 y11 y12 y13 y14 y15 y16 y17 y18 y19) (quarrelref20_Get.l2 (k + 1) y0 y1 y2 y3 y4 y5 y6 y7 y8 y9 y10 y11 y12 y13 y14 y15 y16 y17 y18 y19)) ∧ (∀ y0 y1 y2 y3 y4 y5 y6 y7 y8 y9 y10, LeO (quarrelref20_Get.j3 k y0 y1 y2 y3 y4 y5 y6 y7 y8 y9 y10) (quarrelref20_Get.j3 (k + 1) y0 y1 y2 y3 y4 y5 y6 y7 y8 y9 y10)) ∧ (∀ y0 y1 y2 y3 y4 y5 y6 y7 y8 y9 y10 y11 y12, LeO (quarrelref20_Get.l3 k y0 y1 y2 y3 y4 y5 y6 y7 y8 y9 y10 y11 y12) (quarrelref20_Get.l3 (k + 1) y0 y1 y2 y3 y4 y5 y6 y7 y8 y9 y10 y11 y12)) ∧ (∀ y0 y1 y2 y3 y4 y5 y6 y7 y8 y9 y10 y11, LeO (quarrelref20_Get.l4 k y0 y1 y2 y3 y4 y5 y6 y7 y8 y9 y10 y11) (quarrelref20_Get.l4 (k + 1) y0 y1 y2 y3 y4 y5 y6 y7 y8 y9 y10 y11))
  | 0 => ⟨fun _ _ _ _ _ _ _ _ _ _ _ _ _ _ _ _ r h => by simp [quarrelref20_Get.l0] at h, fun _ _ _ _ _ _ _ _ _ _ _ _ _ _ _ _ _ r h => by simp [quarrelref20_Get.l1] at h, fun _ _ _ _ _ _ _ _ _ _ _ _ _ _ _ _ _ _ _ _ r h => by simp [quarrelref20_Get.l2] at h, fun _ _ _ _ _ _ _ _ _ _ _ r h => by simp [quarrelref20_Get.j3] at h, fun _ _ _ _ _ _ _ _ _ _ _ _ _ r h => by simp [quarrelref20_Get.l3] at h, fun _ _ _ _ _ _ _ _ _ _ _ _ r h => by simp [quarrelref20_Get.l4] at h⟩
  | k + 1 => by
    obtain ⟨ih0, ih1, ih2, ih3, ih4, ih5⟩ := quarrelref20_Get.mono_l k
    refine ⟨?_, ?_, ?_, ?_, ?_, ?_⟩
    · intro y0 y1 y2 y3 y4 y5 y6 y7 y8 y9 y10 y11 y12 y13 y14 y15
      unfold quarrelref20_Get.l0
      repeat' first
      | (with_reducible exact ih0 _ _ _ _ _ _ _ _ _ _ _ _ _ _ _ _)
      | (with_reducible exact ih1 _ _ _ _ _ _ _ _ _ _ _ _ _ _ _ _ _)
      | (with_reducible exact ih2 _ _ _ _ _ _ _ _ _ _ _ _ _ _ _ _ _ _ _ _)
      | (with_reducible exact ih3 _ _ _ _ _ _ _ _ _ _ _)
      | (with_reducible exact ih4 _ _ _ _ _ _ _ _ _ _ _ _ _)
      | (with_reducible exact ih5 _ _ _ _ _ _ _ _ _ _ _ _)
      | (with_reducible exact quarrelref13_Check.mono _ _ _ _ _ _ _)
      | (with_reducible exact quarrelref20_txn.mono _ _ _ _)
      | (with_reducible exact LeO.refl _)
      | (with_reducible exact LeO.none _)
      | (with_reducible refine LeO.ite ?_ ?_)
      | (with_reducible refine LeO.bind ?_ (fun _ => ?_))
      | exact ih0 _ _ _ _ _ _ _ _ _ _ _ _ _ _ _ _
      | exact ih1 _ _ _ _ _ _ _ _ _ _ _ _ _ _ _ _ _
      | exact ih2 _ _ _ _ _ _ _ _ _ _ _ _ _ _ _ _ _ _ _ _
      | exact ih3 _ _ _ _ _ _ _ _ _ _ _
      | exact ih4 _ _ _ _ _ _ _ _ _ _ _ _ _
      | exact ih5 _ _ _ _ _ _ _ _ _ _ _ _
      | exact quarrelref13_Check.mono _ _ _ _ _ _ _
      | exact quarrelref20_txn.mono _ _ _ _
      | exact LeO.none _
      | refine LeO.ite ?_ ?_
      | refine LeO.bind ?_ (fun _ => ?_)
    · intro y0 y1 y2 y3 y4 y5 y6 y7 y8 y9 y10 y11 y12 y13 y14 y15 y16
      unfold quarrelref20_Get.l1
      repeat' first
      | (with_reducible exact ih0 _ _ _ _ _ _ _ _ _ _ _ _ _ _ _ _)
      | (with_reducible exact ih1 _ _ _ _ _ _ _ _ _ _ _ _ _ _ _ _ _)
      | (with_reducible exact ih2 _ _ _ _ _ _ _ _ _ _ _ _ _ _ _ _ _ _ _ _)
      | (with_reducible exact ih3 _ _ _ _ _ _ _ _ _ _ _)
      | (with_reducible exact ih4 _ _ _ _ _ _ _ _ _ _ _ _ _)
      | (with_reducible exact ih5 _ _ _ _ _ _ _ _ _ _ _ _)
      | (with_reducible exact quarrelref13_Check.mono _ _ _ _ _ _ _)
      | (with_reducible exact quarrelref20_txn.mono _ _ _ _)
      | (with_reducible exact LeO.refl _)
      | (with_reducible exact LeO.none _)
      | (with_reducible refine LeO.ite ?_ ?_)
      | (with_reducible refine LeO.bind ?_ (fun _ => ?_))
      | exact ih0 _ _ _ _ _ _ _ _ _ _ _ _ _ _ _ _
      | exact ih1 _ _ _ _ _ _ _ _ _ _ _ _ _ _ _ _ _
      | exact ih2 _ _ _ _ _ _ _ _ _ _ _ _ _ _ _ _ _ _ _ _
      | exact ih3 _ _ _ _ _ _ _ _ _ _ _
      | exact ih4 _ _ _ _ _ _ _ _ _ _ _ _ _
      | exact ih5 _ _ _ _ _ _ _ _ _ _ _ _
      | exact quarrelref13_Check.mono _ _ _ _ _ _ _
      | exact quarrelref20_txn.mono _ _ _ _
      | exact LeO.none _
      | refine LeO.ite ?_ ?_
      | refine LeO.bind ?_ (fun _ => ?_)
    · intro y0 y1 y2 y3 y4 y5 y6 y7 y8 y9 y10 y11 y12 y13 y14 y15 y16 y17 y18 y19
      unfold quarrelref20_Get.l2
      repeat' first
      | (with_reducible exact ih0 _ _ _ _ _ _ _ _ _ _ _ _ _ _ _ _)
      | (with_reducible exact ih1 _ _ _ _ _ _ _ _ _ _ _ _ _ _ _ _ _)
      | (with_reducible exact ih2 _ _ _ _ _ _ _ _ _ _ _ _ _ _ _ _ _ _ _ _)
      | (with_reducible exact ih3 _ _ _ _ _ _ _ _ _ _ _)
      | (with_reducible exact ih4 _ _ _ _ _ _ _ _ _ _ _ _ _)
      | (with_reducible exact ih5 _ _ _ _ _ _ _ _ _ _ _ _)
      | (with_reducible exact quarrelref13_Check.mono _ _ _ _ _ _ _)
      | (with_reducible exact quarrelref20_txn.mono _ _ _ _)
      | (with_reducible exact LeO.refl _)
      | (with_reducible exact LeO.none _)
      | (with_reducible refine LeO.ite ?_ ?_)
      | (with_reducible refine LeO.bind ?_ (fun _ => ?_))
      | exact ih0 _ _ _ _ _ _ _ _ _ _ _ _ _ _ _ _
      | exact ih1 _ _ _ _ _ _ _ _ _ _ _ _ _ _ _ _ _
      | exact ih2 _ _ _ _ _ _ _ _ _ _ _ _ _ _ _ _ _ _ _ _
      | exact ih3 _ _ _ _ _ _ _ _ _ _ _
      | exact ih4 _ _ _ _ _ _ _ _ _ _ _ _ _
      | exact ih5 _ _ _ _ _ _ _ _ _ _ _ _
      | exact quarrelref13_Check.mono _ _ _ _ _ _ _
      | exact quarrelref20_txn.mono _ _ _ _
      | exact LeO.none _
      | refine LeO.ite ?_ ?_
      | refine LeO.bind ?_ (fun _ => ?_)
    · intro y0 y1 y2 y3 y4 y5 y6 y7 y8 y9 y10
      unfold quarrelref20_Get.j3
      repeat' first
      | (with_reducible exact ih0 _ _ _ _ _ _ _ _ _ _ _ _ _ _ _ _)
      | (with_reducible exact ih1 _ _ _ _ _ _ _ _ _ _ _ _ _ _ _ _ _)
      | (with_reducible exact ih2 _ _ _ _ _ _ _ _ _ _ _ _ _ _ _ _ _ _ _ _)
      | (with_reducible exact ih3 _ _ _ _ _ _ _ _ _ _ _)
      | (with_reducible exact ih4 _ _ _ _ _ _ _ _ _ _ _ _ _)
      | (with_reducible exact ih5 _ _ _ _ _ _ _ _ _ _ _ _)
      | (with_reducible exact quarrelref13_Check.mono _ _ _ _ _ _ _)
      | (with_reducible exact quarrelref20_txn.mono _ _ _ _)
      | (with_reducible exact LeO.refl _)
      | (with_reducible exact LeO.none _)
      | (with_reducible refine LeO.ite ?_ ?_)
      | (with_reducible refine LeO.bind ?_ (fun _ => ?_))
      | exact ih0 _ _ _ _ _ _ _ _ _ _ _ _ _ _ _ _
      | exact ih1 _ _ _ _ _ _ _ _ _ _ _ _ _ _ _ _ _
      | exact ih2 _ _ _ _ _ _ _ _ _ _ _ _ _ _ _ _ _ _ _ _
      | exact ih3 _ _ _ _ _ _ _ _ _ _ _
      | exact ih4 _ _ _ _ _ _ _ _ _ _ _ _ _
      | exact ih5 _ _ _ _ _ _ _ _ _ _ _ _
      | exact quarrelref13_Check.mono _ _ _ _ _ _ _
      | exact quarrelref20_txn.mono _ _ _ _
      | exact LeO.none _
      | refine LeO.ite ?_ ?_
      | refine LeO.bind ?_ (fun _ => ?_)
    · intro y0 y1 y2 y3 y4 y5 y6 y7 y8 y9 y10 y11 y12
      unfold quarrelref20_Get.l3
      repeat' first
      | (with_reducible exact ih0 _ _ _ _ _ _ _ _ _ _ _ _ _ _ _ _)
      | (with_reducible exact ih1 _ _ _ _ _ _ _ _ _ _ _ _ _ _ _ _ _)
      | (with_reducible exact ih2 _ _ _ _ _ _ _ _ _ _ _ _ _ _ _ _ _ _ _ _)
      | (with_reducible exact ih3 _ _ _ _ _ _ _ _ _ _ _)
      | (with_reducible exact ih4 _ _ _ _ _ _ _ _ _ _ _ _ _)
      | (with_reducible exact ih5 _ _ _ _ _ _ _ _ _ _ _ _)
      | (with_reducible exact quarrelref13_Check.mono _ _ _ _ _ _ _)
      | (with_reducible exact quarrelref20_txn.mono _ _ _ _)
      | (with_reducible exact LeO.refl _)
      | (with_reducible exact LeO.none _)
      | (with_reducible refine LeO.ite ?_ ?_)
      | (with_reducible refine LeO.bind ?_ (fun _ => ?_))
      | exact ih0 _ _ _ _ _ _ _ _ _ _ _ _ _ _ _ _
      | exact ih1 _ _ _ _ _ _ _ _ _ _ _ _ _ _ _ _ _
      | exact ih2 _ _ _ _ _ _ _ _ _ _ _ _ _ _ _ _ _ _ _ _
      | exact ih3 _ _ _ _ _ _ _ _ _ _ _
      | exact ih4 _ _ _ _ _ _ _ _ _ _ _ _ _
      | exact ih5 _ _ _ _ _ _ _ _ _ _ _ _
      | exact quarrelref13_Check.mono _ _ _ _ _ _ _
      | exact quarrelref20_txn.mono _ _ _ _
      | exact LeO.none _
      | refine LeO.ite ?_ ?_
      | refine LeO.bind ?_ (fun _ => ?_)
    · intro y0 y1 y2 y3 y4 y5 y6 y7 y8 y9 y10 y11
      unfold quarrelref20_Get.l4
      repeat' first
      | (with_reducible exact ih0 _ _ _ _ _ _ _ _ _ _ _ _ _ _ _ _)
      | (with_reducible exact ih1 _ _ _ _ _ _ _ _ _ _ _ _ _ _ _ _ _)
      | (with_reducible exact ih2 _ _ _ _ _ _ _ _ _ _ _ _ _ _ _ _ _ _ _ _)
      | (with_reducible exact ih3 _ _ _ _ _ _ _ _ _ _ _)
      | (with_reducible exact ih4 _ _ _ _ _ _ _ _ _ _ _ _ _)
      | (with_reducible exact ih5 _ _ _ _ _ _ _ _ _ _ _ _)
      | (with_reducible exact quarrelref13_Check.mono _ _ _ _ _ _ _)
      | (with_reducible exact quarrelref20_txn.mono _ _ _ _)
      | (with_reducible exact LeO.refl _)
      | (with_reducible exact LeO.none _)
      | (with_reducible refine LeO.ite ?_ ?_)
      | (with_reducible refine LeO.bind ?_ (fun _ => ?_))
      | exact ih0 _ _ _ _ _ _ _ _ _ _ _ _ _ _ _ _
      | exact ih1 _ _ _ _ _ _ _ _ _ _ _ _ _ _ _ _ _
      | exact ih2 _ _ _ _ _ _ _ _ _ _ _ _ _ _ _ _ _ _ _ _
      | exact ih3 _ _ _ _ _ _ _ _ _ _ _
      | exact ih4 _ _ _ _ _ _ _ _ _ _ _ _ _
      | exact ih5 _ _ _ _ _ _ _ _ _ _ _ _
      | exact quarrelref13_Check.mono _ _ _ _ _ _ _
      | exact quarrelref20_txn.mono _ _ _ _
      | exact LeO.none _
      | refine LeO.ite ?_ ?_
      | refine LeO.bind ?_ (fun _ => ?_)
theorem quarrelref20_Get.mono : ∀ a0 k, LeO (quarrelref20_Get.f k a0) (quarrelref20_Get.f (k + 1) a0) := by
  intro a0 k
  obtain ⟨ih0, ih1, ih2, ih3, ih4, ih5⟩ := quarrelref20_Get.mono_l k
  unfold quarrelref20_Get.f
  repeat' first
      | (with_reducible exact ih0 _ _ _ _ _ _ _ _ _ _ _ _ _ _ _ _)
      | (with_reducible exact ih1 _ _ _ _ _ _ _ _ _ _ _ _ _ _ _ _ _)
      | (with_reducible exact ih2 _ _ _ _ _ _ _ _ _ _ _ _ _ _ _ _ _ _ _ _)
      | (with_reducible exact ih3 _ _ _ _ _ _ _ _ _ _ _)
      | (with_reducible exact ih4 _ _ _ _ _ _ _ _ _ _ _ _ _)
      | (with_reducible exact ih5 _ _ _ _ _ _ _ _ _ _ _ _)
      | (with_reducible exact quarrelref13_Check.mono _ _ _ _ _ _ _)
      | (with_reducible exact quarrelref20_txn.mono _ _ _ _)
      | (with_reducible exact LeO.refl _)
      | (with_reducible exact LeO.none _)
      | (with_reducible refine LeO.ite ?_ ?_)
      | (with_reducible refine LeO.bind ?_ (fun _ => ?_))
      | exact ih0 _ _ _ _ _ _ _ _ _ _ _ _ _ _ _ _
      | exact ih1 _ _ _ _ _ _ _ _ _ _ _ _ _ _ _ _ _
      | exact ih2 _ _ _ _ _ _ _ _ _ _ _ _ _ _ _ _ _ _ _ _
      | exact ih3 _ _ _ _ _ _ _ _ _ _ _
      | exact ih4 _ _ _ _ _ _ _ _ _ _ _ _ _
      | exact ih5 _ _ _ _ _ _ _ _ _ _ _ _
      | exact quarrelref13_Check.mono _ _ _ _ _ _ _
      | exact quarrelref20_txn.mono _ _ _ _
      | exact LeO.none _
      | refine LeO.ite ?_ ?_
      | refine LeO.bind ?_ (fun _ => ?_)
def quarrelref20_Get.T3 : Bool × List (List Nat × List Nat) := (true, [([], []), ([0], [0]), ([1], [1]), ([2], [2]), ([], []), ([4], [4]), ([5], [5]), ([6], [6]), ([], []), ([8], [8]), ([9], [9]), ([10], [10]), ([11], [11]), ([], []), ([13], [13]), ([14], [14]), ([15], [15]), ([12, 16], [12, 16]), ([], []), ([18], [18]), ([19], [19]), ([20], [20]), ([], []), ([22], [22]), ([23], [23]), ([24], [24]), ([], []), ([26], [26]), ([27], [27]), ([28], [28]), ([3, 7, 17, 21, 25, 29], [3, 7, 17, 21, 25, 29]), ([], []), ([31, 30, 0, 1, 2, 3, 4, 5, 6, 7, 8, 9, 10, 11, 12, 13, 14, 15, 16, 17, 18, 19, 20, 21, 22, 23, 24, 25, 26, 27, 28, 29, 30, 31], [30, 31])])
def quarrelref20_Get.B3 : List Nat := [0, 1, 3, 7, 0, 16, 48, 112, 0, 256, 768, 1792, 3840, 0, 8192, 24576, 57344, 130816, 0, 262144, 786432, 1835008, 0, 4194304, 12582912, 29360128, 0, 67108864, 201326592, 469762048, 1073741823, 0, 4294967295]
theorem quarrelref20_Get.tab3 : rtab .any (opsOf Try.f11 3) = quarrelref20_Get.T3 := by kernel_rfl
theorem quarrelref20_Get.bits3 : waitsOk quarrelref20_Get.T3.2 quarrelref20_Get.B3 = true := by kernel_rfl
def quarrelref20_Get.T15 : Bool × List (List Nat × List Nat) := (true, [([], []), ([0], [0]), ([], []), ([], []), ([2, 3], [2, 3]), ([4], [4]), ([5], [5]), ([6], [6]), ([1, 7, 6], [1, 7]), ([0, 1, 2, 3, 4, 5, 6, 7, 8], []), ([9, 8, 8, 0, 1, 2, 3, 4, 5, 6, 7, 8], [8, 9])])
def quarrelref20_Get.B15 : List Nat := [0, 1, 0, 0, 12, 28, 60, 124, 255, 511, 1023]
theorem quarrelref20_Get.tab15 : rtab .any (opsOf Try.f11 15) = quarrelref20_Get.T15 := by kernel_rfl
theorem quarrelref20_Get.bits15 : waitsOk quarrelref20_Get.T15.2 quarrelref20_Get.B15 = true := by kernel_rfl
def quarrelref20_Get.T43 : Bool × List (List Nat × List Nat) := (true, [([], []), ([0], [0]), ([], []), ([], []), ([2, 3], [2, 3]), ([4], [4]), ([5], [5]), ([1, 6], [1, 6]), ([0, 1, 2, 3, 4, 5, 6, 7], []), ([8, 7, 7, 0, 1, 2, 3, 4, 5, 6, 7], [7, 8])])
def quarrelref20_Get.B43 : List Nat := [0, 1, 0, 0, 12, 28, 60, 127, 255, 511]
theorem quarrelref20_Get.tab43 : rtab .any (opsOf Try.f11 43) = quarrelref20_Get.T43 := by kernel_rfl
theorem quarrelref20_Get.bits43 : waitsOk quarrelref20_Get.T43.2 quarrelref20_Get.B43 = true := by kernel_rfl
def quarrelref20_Get.T46 : Bool × List (List Nat × List Nat) := (true, [([], []), ([0], [0]), ([], []), ([], []), ([2, 3], [2, 3]), ([4], [4]), ([5], [5]), ([6], [6]), ([1, 7], [1, 7]), ([0, 1, 2, 3, 4, 5, 6, 7, 8], []), ([9, 8, 8, 0, 1, 2, 3, 4, 5, 6, 7, 8], [8, 9])])
def quarrelref20_Get.B46 : List Nat := [0, 1, 0, 0, 12, 28, 60, 124, 255, 511, 1023]
theorem quarrelref20_Get.tab46 : rtab .any (opsOf Try.f11 46) = quarrelref20_Get.T46 := by kernel_rfl
theorem quarrelref20_Get.bits46 : waitsOk quarrelref20_Get.T46.2 quarrelref20_Get.B46 = true := by kernel_rfl
end Go.Proofs.Ythfkgnkojhocbaa.S
end
