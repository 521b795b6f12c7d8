/- Walks: what each Go function of this seat that stands here comes to; conditions stand in each contract. Written by a program of this session. -/
import Derived.Test.YtgefdpmhdidnnaaLx0
import Derived.Test.YtgefdpmhdidnnaaLx6
namespace Go.Proofs.Ytgefdpmhdidnnaa.L
open Go.RowKit Go.Proofs.YtgefdpmhdidnnaaW.PrintWords Go.Proofs.YtgefdpmhdidnnaaW.PrintLast Go.Proofs.YtgefdpmhdidnnaaW.PrintMore
attribute [local go_sem] max2_int min2_int max_two min_two max_three min_three max_four min_four   -- for this text's walks alone
set_option linter.unusedVariables false
set_option linter.unusedSimpArgs false

/-! ### quarrelref11_Get: function 21 -/
def quarrelref11_Get.l0 : Nat → List Int → Int → List (S33) → Option ((List (S33)) × Int × Int)
  | 0, _, _, _ => none
  | k + 1, x0, x1, x7 => if (wrap64 ((x7.length : Int) * 3)) < (x0.length : Int) then (if (wrap64 ((wrap64 ((x7.length : Int) * 3)) + 3)) > (x0.length : Int) then (some (([] : List (S33)), wrap64 ((x7.length : Int) * 3), 9)) else (if 0 ≤ (wrap64 ((wrap64 ((x7.length : Int) * 3)) + 2)) then (if (wrap64 ((wrap64 ((x7.length : Int) * 3)) + 2)) < (x0.length : Int) then (if (wrap64 (rd x0 (wrap64 ((wrap64 ((x7.length : Int) * 3)) + 2)))) > 127 then (if 0 ≤ (wrap64 ((x7.length : Int) * 3)) then (if 0 ≤ (wrap64 ((wrap64 ((x7.length : Int) * 3)) + 1)) then (if (wrap64 ((wrap64 ((x7.length : Int) * 3)) + 1)) < (x0.length : Int) then ((quarrelref11_Ok.f k (wrap64 (rd x0 (wrap64 ((x7.length : Int) * 3)))) (wrap64 (rd x0 (wrap64 ((wrap64 ((x7.length : Int) * 3)) + 1)))) (wrap64 ((wrap64 (rd x0 (wrap64 ((wrap64 ((x7.length : Int) * 3)) + 2)))) - 256)) x1).bind fun t256 => (if t256 = true then (if x7.length < 5864062014805 then (quarrelref11_Get.l0 k x0 x1 (x7 ++ [(⟨wrap64 (rd x0 (wrap64 ((x7.length : Int) * 3))), wrap64 (rd x0 (wrap64 ((wrap64 ((x7.length : Int) * 3)) + 1))), wrap64 ((wrap64 (rd x0 (wrap64 ((wrap64 ((x7.length : Int) * 3)) + 2)))) - 256)⟩ : S33)])) else (none)) else (some (([] : List (S33)), wrap64 ((x7.length : Int) * 3), 3)))) else (none)) else (none)) else (none)) else (if 0 ≤ (wrap64 ((x7.length : Int) * 3)) then (if 0 ≤ (wrap64 ((wrap64 ((x7.length : Int) * 3)) + 1)) then (if (wrap64 ((wrap64 ((x7.length : Int) * 3)) + 1)) < (x0.length : Int) then ((quarrelref11_Ok.f k (wrap64 (rd x0 (wrap64 ((x7.length : Int) * 3)))) (wrap64 (rd x0 (wrap64 ((wrap64 ((x7.length : Int) * 3)) + 1)))) (wrap64 (rd x0 (wrap64 ((wrap64 ((x7.length : Int) * 3)) + 2)))) x1).bind fun t263 => (if t263 = true then (if x7.length < 5864062014805 then (quarrelref11_Get.l0 k x0 x1 (x7 ++ [(⟨wrap64 (rd x0 (wrap64 ((x7.length : Int) * 3))), wrap64 (rd x0 (wrap64 ((wrap64 ((x7.length : Int) * 3)) + 1))), wrap64 (rd x0 (wrap64 ((wrap64 ((x7.length : Int) * 3)) + 2)))⟩ : S33)])) else (none)) else (some (([] : List (S33)), wrap64 ((x7.length : Int) * 3), 3)))) else (none)) else (none)) else (none))) else (none)) else (none))) else (some (x7, (-1), 0))
def quarrelref11_Get.f (k : Nat) (l0 : List Int) (a1 : Int) : Option ((List (S33)) × Int × Int) := quarrelref11_Get.l0 k l0 a1 ([] : List (S33))
theorem quarrelref11_Get.mono_l : ∀ k, (∀ y0 y1 y2, LeO (quarrelref11_Get.l0 k y0 y1 y2) (quarrelref11_Get.l0 (k + 1) y0 y1 y2))
  | 0 => fun _ _ _ r h => by simp [quarrelref11_Get.l0] at h
  | k + 1 => by
    have ih0 := quarrelref11_Get.mono_l k
    · intro y0 y1 y2
      unfold quarrelref11_Get.l0
      repeat' first
      | (with_reducible exact ih0 _ _ _)
      | (with_reducible exact quarrelref11_Ok.mono _ _ _ _ _)
      | (with_reducible exact LeO.refl _)
      | (with_reducible exact LeO.none _)
      | (with_reducible refine LeO.ite ?_ ?_)
      | (with_reducible refine LeO.bind ?_ (fun _ => ?_))
      | exact ih0 _ _ _
      | exact quarrelref11_Ok.mono _ _ _ _ _
      | exact LeO.none _
      | refine LeO.ite ?_ ?_
      | refine LeO.bind ?_ (fun _ => ?_)
theorem quarrelref11_Get.mono : ∀ a0 a1 k, LeO (quarrelref11_Get.f k a0 a1) (quarrelref11_Get.f (k + 1) a0 a1) := by
  intro a0 a1 k
  have ih0 := quarrelref11_Get.mono_l k
  unfold quarrelref11_Get.f
  repeat' first
      | (with_reducible exact ih0 _ _ _)
      | (with_reducible exact quarrelref11_Ok.mono _ _ _ _ _)
      | (with_reducible exact LeO.refl _)
      | (with_reducible exact LeO.none _)
      | (with_reducible refine LeO.ite ?_ ?_)
      | (with_reducible refine LeO.bind ?_ (fun _ => ?_))
      | exact ih0 _ _ _
      | exact quarrelref11_Ok.mono _ _ _ _ _
      | exact LeO.none _
      | refine LeO.ite ?_ ?_
      | refine LeO.bind ?_ (fun _ => ?_)
def quarrelref11_Get.T9 : Bool × List (List Nat × List Nat) := (true, [([], []), ([], []), ([0, 1], [0, 1]), ([2], [2]), ([3], [3]), ([], []), ([], []), ([6], [6]), ([5, 7], [5, 7]), ([8], [8]), ([9], [9]), ([], []), ([4, 10, 11], [4, 10, 11]), ([], []), ([13, 12, 0, 1, 2, 3, 4, 5, 6, 7, 8, 9, 10, 11, 12, 13], [12, 13])])
def quarrelref11_Get.B9 : List Nat := [0, 0, 3, 7, 15, 0, 0, 64, 224, 480, 992, 0, 4095, 0, 16383]
theorem quarrelref11_Get.tab9 : rtab .any (opsOf Try.f21 9) = quarrelref11_Get.T9 := by kernel_rfl
theorem quarrelref11_Get.bits9 : waitsOk quarrelref11_Get.T9.2 quarrelref11_Get.B9 = true := by kernel_rfl
set_option maxHeartbeats 8000000 in
set_option maxRecDepth 100000 in
theorem quarrelref11_Get.calls (k : Nat) (A0 : Option Addr) (c0 : Nat) (l0 : List Int) (a1 : Int) (r1 : List (S33)) (r2 : Int) (r3 : Int) (w : World) (hr0 : Kd.C (Kd.int .u8) w A0 l0.length l0) (hc0 : l0.length ≤ c0) (h : quarrelref11_Get.f k l0 a1 = some (r1, r2, r3)) :
    Calls Try.prog 21 #[.slice A0 l0.length c0, .int .i64 a1] w fun e w' => ∃ v0_ : Value, e = .returned (.tuple #[v0_, .int .i64 r2, .int .i64 r3]) ∧ Kd.R k33 33 w' w.heap.size (fun _ => True) v0_ r1 ∧ Below w.heap.size w w' := by
  have hu33 := Try.underlying33
  have HR0 := Aside0.mk hr0
  have HC0 := Aside0.mk hc0
  clear hr0 hc0
  have HB := Aside0.mk (Below.refl w.heap.size w)
  have H : (quarrelref11_Get.l0 k l0 a1 ([] : List (S33))) = some (r1, r2, r3) := h
  clear h
  have H' := Aside0.mk H
  clear H
  go_enter Try.func21, Try.ntmps21
  go_wp2
  go_loopg [7] k (fun kq v7 w' => ∃ (x7_1 : List (S33)), Aside0 (quarrelref11_Get.l0 kq l0 a1 x7_1 = some (r1, r2, r3)) ∧ Aside0 (kq ≤ k) ∧ Aside0 (Kd.R k33 33 w' w.heap.size (fun _ => True) v7 x7_1) ∧ Aside0 (Below w.heap.size w w'))
  case atStart => exact ⟨(([] : List (S33))), H', ⟨Nat.le_refl _⟩, ⟨by first | exact Kd.R_nil _ _ _ _ _ | exact Kd.N_nil _ _ _ _ _ | exact Kd.V_nil _ _ _ _ _ | exact Kd.Q_nil _ _ _ _ _ | exact Kd.S_nil _ _ _ _ _⟩, ⟨by repeat (first | (with_reducible first | exact HB.out | apply below_alloc | apply pw_below_drewN | apply below_drew1) | exact HB.out)⟩⟩
  case round =>
    clear H'
    try clear c2
    try clear p2
    obtain ⟨x7_1, HA, HK1, HO_7, HB⟩ := hrel
    cases gk with
    | zero => exact absurd HA.out (by simp [quarrelref11_Get.l0])
    | succ k1 =>
      have H := HA.out
      clear HA
      simp only [quarrelref11_Get.l0] at H
      by_cases c3 : (wrap64 ((x7_1.length : Int) * 3)) < (l0.length : Int)
      · rw [if_pos c3] at H
        have c3b0 : decide ((wrap64 ((x7_1.length : Int) * 3)) < (l0.length : Int)) = true := decide_eq_true c3
        clear c3
        by_cases c4 : (wrap64 ((wrap64 ((x7_1.length : Int) * 3)) + 3)) > (l0.length : Int)
        · rw [if_pos c4] at H
          have c4b0 : decide ((l0.length : Int) < (wrap64 ((wrap64 ((x7_1.length : Int) * 3)) + 3))) = true := decide_eq_true c4
          clear c4
          simp only [Option.some.injEq, Prod.mk.injEq] at H
          obtain ⟨rfl, rfl, rfl⟩ := H
          obtain ⟨Ao5, co5, eo5⟩ := Kd.R_slice HO_7.out
          subst eo5
          go_wp2
          go_ret3
          exact ⟨_, by first | rfl | (simp [errW_none, errW_some] <;> rfl) | (simp [*, errW_none, errW_some] <;> rfl), by first | exact Kd.R_nil _ _ _ _ _ | exact Kd.N_nil _ _ _ _ _ | exact Kd.V_nil _ _ _ _ _ | exact Kd.Q_nil _ _ _ _ _ | exact Kd.S_nil _ _ _ _ _, by repeat (first | (with_reducible first | exact HB.out | apply below_alloc | apply pw_below_drewN | apply below_drew1) | exact HB.out)⟩
        · rw [if_neg c4] at H
          have c4b0 : decide ((l0.length : Int) < (wrap64 ((wrap64 ((x7_1.length : Int) * 3)) + 3))) = false := decide_eq_false c4
          clear c4
          obtain ⟨ji6, hji6⟩ : ∃ j_ : Int, (wrap64 ((wrap64 ((x7_1.length : Int) * 3)) + 2)) = j_ := ⟨_, rfl⟩
          replace H : (if 0 ≤ (ji6) then (if (ji6) < (l0.length : Int) then (if (wrap64 (rd l0 (ji6))) > 127 then (if 0 ≤ (wrap64 ((x7_1.length : Int) * 3)) then (if 0 ≤ (wrap64 ((wrap64 ((x7_1.length : Int) * 3)) + 1)) then (if (wrap64 ((wrap64 ((x7_1.length : Int) * 3)) + 1)) < (l0.length : Int) then ((quarrelref11_Ok.f k1 (wrap64 (rd l0 (wrap64 ((x7_1.length : Int) * 3)))) (wrap64 (rd l0 (wrap64 ((wrap64 ((x7_1.length : Int) * 3)) + 1)))) (wrap64 ((wrap64 (rd l0 (ji6))) - 256)) a1).bind fun t256 => (if t256 = true then (if x7_1.length < 5864062014805 then (quarrelref11_Get.l0 k1 l0 a1 (x7_1 ++ [(⟨wrap64 (rd l0 (wrap64 ((x7_1.length : Int) * 3))), wrap64 (rd l0 (wrap64 ((wrap64 ((x7_1.length : Int) * 3)) + 1))), wrap64 ((wrap64 (rd l0 (ji6))) - 256)⟩ : S33)])) else (none)) else (some (([] : List (S33)), wrap64 ((x7_1.length : Int) * 3), 3)))) else (none)) else (none)) else (none)) else (if 0 ≤ (wrap64 ((x7_1.length : Int) * 3)) then (if 0 ≤ (wrap64 ((wrap64 ((x7_1.length : Int) * 3)) + 1)) then (if (wrap64 ((wrap64 ((x7_1.length : Int) * 3)) + 1)) < (l0.length : Int) then ((quarrelref11_Ok.f k1 (wrap64 (rd l0 (wrap64 ((x7_1.length : Int) * 3)))) (wrap64 (rd l0 (wrap64 ((wrap64 ((x7_1.length : Int) * 3)) + 1)))) (wrap64 (rd l0 (ji6))) a1).bind fun t263 => (if t263 = true then (if x7_1.length < 5864062014805 then (quarrelref11_Get.l0 k1 l0 a1 (x7_1 ++ [(⟨wrap64 (rd l0 (wrap64 ((x7_1.length : Int) * 3))), wrap64 (rd l0 (wrap64 ((wrap64 ((x7_1.length : Int) * 3)) + 1))), wrap64 (rd l0 (ji6))⟩ : S33)])) else (none)) else (some (([] : List (S33)), wrap64 ((x7_1.length : Int) * 3), 3)))) else (none)) else (none)) else (none))) else (none)) else (none)) = some (r1, r2, r3) := by first | (rw [hji6] at H; exact H) | (simp only [hji6] at H ⊢; exact H)
          have hji6w : (IntKind.i64.wrap ((wrap64 ((x7_1.length : Int) * 3)) + 2)) = ji6 := (i64_w _).trans hji6
          by_cases c7 : 0 ≤ (ji6)
          · rw [if_pos c7] at H
            have c7b0 : decide (0 ≤ (ji6)) = true := decide_eq_true c7
            clear c7
            by_cases c8 : (ji6) < (l0.length : Int)
            · rw [if_pos c8] at H
              have c8b0 : decide ((ji6) < (l0.length : Int)) = true := decide_eq_true c8
              clear c8
              by_cases c9 : (wrap64 (rd l0 (ji6))) > 127
              · rw [if_pos c9] at H
                have c9b0 : decide (127 < (wrap64 (rd l0 (ji6)))) = true := decide_eq_true c9
                clear c9
                obtain ⟨ji10, hji10⟩ : ∃ j_ : Int, (wrap64 ((x7_1.length : Int) * 3)) = j_ := ⟨_, rfl⟩
                replace H : (if 0 ≤ (ji10) then (if 0 ≤ (wrap64 ((ji10) + 1)) then (if (wrap64 ((ji10) + 1)) < (l0.length : Int) then ((quarrelref11_Ok.f k1 (wrap64 (rd l0 (ji10))) (wrap64 (rd l0 (wrap64 ((ji10) + 1)))) (wrap64 ((wrap64 (rd l0 (ji6))) - 256)) a1).bind fun t256 => (if t256 = true then (if x7_1.length < 5864062014805 then (quarrelref11_Get.l0 k1 l0 a1 (x7_1 ++ [(⟨wrap64 (rd l0 (ji10)), wrap64 (rd l0 (wrap64 ((ji10) + 1))), wrap64 ((wrap64 (rd l0 (ji6))) - 256)⟩ : S33)])) else (none)) else (some (([] : List (S33)), ji10, 3)))) else (none)) else (none)) else (none)) = some (r1, r2, r3) := by first | (rw [hji10] at H; exact H) | (simp only [hji10] at H ⊢; exact H)
                (try rw [hji10] at c3b0)
                (try rw [hji10] at c4b0)
                have hji10w : (IntKind.i64.wrap ((x7_1.length : Int) * 3)) = ji10 := (i64_w _).trans hji10
                (try rw [hji10] at hji6)
                (try rw [hji10] at hji6w)
                by_cases c11 : 0 ≤ (ji10)
                · rw [if_pos c11] at H
                  have c11b0 : decide (0 ≤ (ji10)) = true := decide_eq_true c11
                  clear c11
                  obtain ⟨ji12, hji12⟩ : ∃ j_ : Int, (wrap64 ((ji10) + 1)) = j_ := ⟨_, rfl⟩
                  replace H : (if 0 ≤ (ji12) then (if (ji12) < (l0.length : Int) then ((quarrelref11_Ok.f k1 (wrap64 (rd l0 (ji10))) (wrap64 (rd l0 (ji12))) (wrap64 ((wrap64 (rd l0 (ji6))) - 256)) a1).bind fun t256 => (if t256 = true then (if x7_1.length < 5864062014805 then (quarrelref11_Get.l0 k1 l0 a1 (x7_1 ++ [(⟨wrap64 (rd l0 (ji10)), wrap64 (rd l0 (ji12)), wrap64 ((wrap64 (rd l0 (ji6))) - 256)⟩ : S33)])) else (none)) else (some (([] : List (S33)), ji10, 3)))) else (none)) else (none)) = some (r1, r2, r3) := by first | (rw [hji12] at H; exact H) | (simp only [hji12] at H ⊢; exact H)
                  have hji12w : (IntKind.i64.wrap ((ji10) + 1)) = ji12 := (i64_w _).trans hji12
                  (try rw [hji12] at hji6)
                  (try rw [hji12] at hji6w)
                  (try rw [hji12] at hji10)
                  (try rw [hji12] at hji10w)
                  by_cases c13 : 0 ≤ (ji12)
                  · rw [if_pos c13] at H
                    have c13b0 : decide (0 ≤ (ji12)) = true := decide_eq_true c13
                    clear c13
                    by_cases c14 : (ji12) < (l0.length : Int)
                    · rw [if_pos c14] at H
                      have c14b0 : decide ((ji12) < (l0.length : Int)) = true := decide_eq_true c14
                      clear c14
                      replace H := Option.bind_eq_some_iff.mp H
                      obtain ⟨t256, A150, H⟩ := H
                      replace H : (if t256 = true then (if x7_1.length < 5864062014805 then (quarrelref11_Get.l0 k1 l0 a1 (x7_1 ++ [(⟨wrap64 (rd l0 (ji10)), wrap64 (rd l0 (ji12)), wrap64 ((wrap64 (rd l0 (ji6))) - 256)⟩ : S33)])) else (none)) else (some (([] : List (S33)), ji10, 3))) = some (r1, r2, r3) := H
                      have A15 := Aside0.mk A150
                      clear A150
                      by_cases c16 : t256 = true
                      · subst c16
                        have H1 : (if x7_1.length < 5864062014805 then (quarrelref11_Get.l0 k1 l0 a1 (x7_1 ++ [(⟨wrap64 (rd l0 (ji10)), wrap64 (rd l0 (ji12)), wrap64 ((wrap64 (rd l0 (ji6))) - 256)⟩ : S33)])) else (none)) = some (r1, r2, r3) := by rw [if_pos rfl] at H; exact H
                        clear H
                        have H := H1
                        clear H1
                        by_cases c17 : x7_1.length < 5864062014805
                        · rw [if_pos c17] at H
                          have LMc17 := Aside0.mk c17
                          clear c17
                          obtain ⟨y257, hy257⟩ : ∃ y_ : List (S33), y_ = (x7_1 ++ [(⟨wrap64 (rd l0 (ji10)), wrap64 (rd l0 (ji12)), wrap64 ((wrap64 (rd l0 (ji6))) - 256)⟩ : S33)]) := ⟨_, rfl⟩
                          replace H : (quarrelref11_Get.l0 k1 l0 a1 y257) = some (r1, r2, r3) := by first | (rw [hy257]; with_reducible exact H) | (have H2_ := (Option.bind_some _ _).symm.trans H; rw [hy257]; with_reducible exact H2_) | (have H2_ := (Option.bind_some _ _).symm.trans H; with_reducible exact H2_) | with_reducible exact H | (rw [hy257]; exact H) | exact H
                          have Ny257 := Aside0.mk hy257
                          clear hy257
                          have H' := Aside0.mk H
                          clear H
                          obtain ⟨Ao18, co18, eo18⟩ := Kd.R_slice HO_7.out
                          subst eo18
                          have p252 : 0 ≤ ((ji6) : Int) := of_decide_eq_true (by first | (with_reducible assumption) | assumption)
                          have q252 : (ji6) < (l0.length : Int) := of_decide_eq_true (by first | (with_reducible assumption) | assumption)
                          obtain ⟨ad252, e252, hx252_0⟩ := Kd.at_int HR0.out (ji6) p252 q252
                          cases e252
                          replace hx252_0 := (HB.out.cell (World.block_lt_of_cell? w _ hx252_0)).trans hx252_0
                          replace p252 := eq_true p252
                          replace q252 := eq_true q252
                          try go_wp2
                          have n0_ := Aside0.mk (Kd.R_drew HO_7.out)
                          have n1_ := Aside0.mk (below_drew1 HB.out)
                          clear HO_7
                          clear HB
                          have HO_7 := n0_
                          have HB := n1_
                          clear n0_ n1_
                          have p253 : 0 ≤ ((ji10) : Int) := of_decide_eq_true (by first | (with_reducible assumption) | assumption)
                          have q253 : (ji10) < (l0.length : Int) := of_decide_eq_true (by first | (with_reducible assumption) | assumption)
                          obtain ⟨ad253, e253, hx253_0⟩ := Kd.at_int HR0.out (ji10) p253 q253
                          have hw253_0 := hx253_0
                          obtain rfl : ad252 = ad253 := (by injection e253)
                          replace hx253_0 := (HB.out.cell (World.block_lt_of_cell? w _ hx253_0)).trans hx253_0
                          replace p253 := eq_true p253
                          replace q253 := eq_true q253
                          have p254 : 0 ≤ ((ji12) : Int) := of_decide_eq_true (by first | (with_reducible assumption) | assumption)
                          have q254 : (ji12) < (l0.length : Int) := of_decide_eq_true (by first | (with_reducible assumption) | assumption)
                          obtain ⟨ad254, e254, hx254_0⟩ := Kd.at_int HR0.out (ji12) p254 q254
                          have hw254_0 := hx254_0
                          obtain rfl : ad252 = ad254 := (by injection e254)
                          replace hx254_0 := (HB.out.cell (World.block_lt_of_cell? w _ hx254_0)).trans hx254_0
                          replace p254 := eq_true p254
                          replace q254 := eq_true q254
                          refine start_ (n := 15) (S := fun w' => w'.cell? (ad252.add ((ji10)).toNat) = some (.int .u8 (rd l0 (ji10))) ∧ w'.cell? (ad252.add ((ji12)).toNat) = some (.int .u8 (rd l0 (ji12)))) (ds := []) #[false, false, false, false, false, false, false, false, false, false, false, false, false, false, false] (by kernel_rfl) rfl rfl ⟨((HB.out.cell (World.block_lt_of_cell? w _ hw253_0)).trans hw253_0), ((HB.out.cell (World.block_lt_of_cell? w _ hw254_0)).trans hw254_0)⟩ (fun hHeld => ?_); refine with_tabW quarrelref11_Get.tab9 quarrelref11_Get.bits9 (fun HT_ HW_ => ?_)
                          generalize wr.drew = w19 at HO_7 HB hx253_0 hx254_0 hHeld ⊢
                          refine pure_ (i := 0) (N := some 36) (v := ?_) (a' := ?_) #[true, false, false, false, false, false, false, false, false, false, false, false, false, false, false] rfl rfl (any_of HT_.out (by kernel_rfl)) (fun _ _ _ h => h) (Or.inl ⟨by rfl, ?_⟩) ?_ ?_
                          rotate_left
                          · intro w'
                            go_simp
                            with_reducible rfl
                          rotate_left
                          · simp only [Act.put, List.setIfInBounds_toArray, List.set_cons_zero, List.set_cons_succ, i64_w, i32_w]
                            rfl
                          refine pure_ (i := 1) (N := some 37) (v := ?_) (a' := ?_) #[true, true, false, false, false, false, false, false, false, false, false, false, false, false, false] rfl rfl (any_of HT_.out (by kernel_rfl)) (fun _ _ _ h => h) (Or.inl ⟨by rfl, ?_⟩) ?_ ?_
                          rotate_left
                          · intro w'
                            go_simp
                            with_reducible rfl
                          rotate_left
                          · simp only [Act.put, List.setIfInBounds_toArray, List.set_cons_zero, List.set_cons_succ, i64_w, i32_w]
                            rfl
                          refine pure_ (i := 2) (N := some 38) (v := ?_) (a' := ?_) #[true, true, true, false, false, false, false, false, false, false, false, false, false, false, false] rfl rfl (any_of HT_.out (by kernel_rfl)) (fun _ _ _ h => h) (Or.inl ⟨by rfl, ?_⟩) ?_ ?_
                          rotate_left
                          · intro w'
                            go_simp
                            with_reducible rfl
                          rotate_left
                          · simp only [Act.put, List.setIfInBounds_toArray, List.set_cons_zero, List.set_cons_succ, i64_w, i32_w]
                            rfl
                          refine pure_ (i := 5) (N := some 41) (v := ?_) (a' := ?_) #[true, true, true, false, false, true, false, false, false, false, false, false, false, false, false] rfl rfl (any_of HT_.out (by kernel_rfl)) (fun _ _ _ h => h) (Or.inl ⟨by rfl, ?_⟩) ?_ ?_
                          rotate_left
                          · intro w'
                            go_simp
                            with_reducible rfl
                          rotate_left
                          · simp only [Act.put, List.setIfInBounds_toArray, List.set_cons_zero, List.set_cons_succ, i64_w, i32_w]
                            rfl
                          refine pure_ (i := 6) (N := some 42) (v := ?_) (a' := ?_) #[true, true, true, false, false, true, true, false, false, false, false, false, false, false, false] rfl rfl (any_of HT_.out (by kernel_rfl)) (fun _ _ _ h => h) (Or.inl ⟨by rfl, ?_⟩) ?_ ?_
                          rotate_left
                          · intro w'
                            go_simp
                            with_reducible rfl
                          rotate_left
                          · simp only [Act.put, List.setIfInBounds_toArray, List.set_cons_zero, List.set_cons_succ, i64_w, i32_w]
                            rfl
                          refine pure_ (i := 7) (N := some 43) (v := ?_) (a' := ?_) #[true, true, true, false, false, true, true, true, false, false, false, false, false, false, false] rfl rfl (any_of HT_.out (by kernel_rfl)) (fun _ _ _ h => h) (Or.inl ⟨by rfl, ?_⟩) ?_ ?_
                          rotate_left
                          · intro w'
                            go_simp
                            with_reducible rfl
                          rotate_left
                          · simp only [Act.put, List.setIfInBounds_toArray, List.set_cons_zero, List.set_cons_succ, i64_w, i32_w]
                            rfl
                          refine pure_ (i := 8) (N := some 44) (v := ?_) (a' := ?_) #[true, true, true, false, false, true, true, true, true, false, false, false, false, false, false] rfl rfl (any_of HT_.out (by kernel_rfl)) (fun _ _ _ h => h) (Or.inl ⟨by rfl, ?_⟩) ?_ ?_
                          rotate_left
                          · intro w'
                            go_simp
                            with_reducible rfl
                          rotate_left
                          · simp only [Act.put, List.setIfInBounds_toArray, List.set_cons_zero, List.set_cons_succ, i64_w, i32_w]
                            rfl
                          refine pure_ (i := 11) (N := some 47) (v := ?_) (a' := ?_) #[true, true, true, false, false, true, true, true, true, false, false, true, false, false, false] rfl rfl (any_of HT_.out (by kernel_rfl)) (fun _ _ _ h => h) (Or.inl ⟨by rfl, ?_⟩) ?_ ?_
                          rotate_left
                          · intro w'
                            go_simp
                            with_reducible rfl
                          rotate_left
                          · simp only [Act.put, List.setIfInBounds_toArray, List.set_cons_zero, List.set_cons_succ, i64_w, i32_w]
                            rfl
                          refine take_ (i := 3) (N := some 39) (v := ?_) (a' := ?_) #[true, true, true, true, false, true, true, true, true, false, false, true, false, false, false] rfl rfl (take_ofW HT_.out HW_.out (by kernel_rfl)) (fun _ _ _ h => h) (Or.inl ⟨by rfl, ?_⟩) hHeld ?_ ?_
                          rotate_left
                          · rintro w' ⟨s0, s1⟩
                            go_simp
                            with_reducible rfl
                          rotate_left
                          · simp only [Act.put, List.setIfInBounds_toArray, List.set_cons_zero, List.set_cons_succ, i64_w, i32_w]
                            rfl
                          refine pure_ (i := 4) (N := some 40) (v := ?_) (a' := ?_) #[true, true, true, true, true, true, true, true, true, false, false, true, false, false, false] rfl rfl (any_of HT_.out (by kernel_rfl)) (fun _ _ _ h => h) (Or.inl ⟨by rfl, ?_⟩) ?_ ?_
                          rotate_left
                          · intro w'
                            go_simp
                            with_reducible rfl
                          rotate_left
                          · simp only [Act.put, List.setIfInBounds_toArray, List.set_cons_zero, List.set_cons_succ, i64_w, i32_w]
                            rfl
                          refine take_ (i := 9) (N := some 45) (v := ?_) (a' := ?_) #[true, true, true, true, true, true, true, true, true, true, false, true, false, false, false] rfl rfl (take_ofW HT_.out HW_.out (by kernel_rfl)) (fun _ _ _ h => h) (Or.inl ⟨by rfl, ?_⟩) hHeld ?_ ?_
                          rotate_left
                          · rintro w' ⟨s0, s1⟩
                            go_simp
                            with_reducible rfl
                          rotate_left
                          · simp only [Act.put, List.setIfInBounds_toArray, List.set_cons_zero, List.set_cons_succ, i64_w, i32_w]
                            rfl
                          refine pure_ (i := 10) (N := some 46) (v := ?_) (a' := ?_) #[true, true, true, true, true, true, true, true, true, true, true, true, false, false, false] rfl rfl (any_of HT_.out (by kernel_rfl)) (fun _ _ _ h => h) (Or.inl ⟨by rfl, ?_⟩) ?_ ?_
                          rotate_left
                          · intro w'
                            go_simp
                            with_reducible rfl
                          rotate_left
                          · simp only [Act.put, List.setIfInBounds_toArray, List.set_cons_zero, List.set_cons_succ, i64_w, i32_w]
                            rfl
                          refine pure_ (i := 12) (N := some 48) (v := ?_) (a' := ?_) #[true, true, true, true, true, true, true, true, true, true, true, true, true, false, false] rfl rfl (any_of HT_.out (by kernel_rfl)) (fun _ _ _ h => h) (Or.inl ⟨by rfl, ?_⟩) ?_ ?_
                          rotate_left
                          · intro w'
                            go_simp
                            with_reducible rfl
                          rotate_left
                          · simp only [Act.put, List.setIfInBounds_toArray, List.set_cons_zero, List.set_cons_succ, i64_w, i32_w]
                            rfl
                          refine one_ (i := 13) (N := some 10) #[true, true, true, true, true, true, true, true, true, true, true, true, true, true, false] rfl rfl (one_of HT_.out (by kernel_rfl)) (by decide) (fun K hK => ?_)
                          refine box_step ?hg (N := 10) ?hd (cs := #[.int .i64 0, .int .i64 0, .int .i64 0]) (t := 33) ?hr ?_; (case hd => rfl); (case hg => rfl); (case hr => first | (go_simp; done) | (go_simp; rfl))
                          intro gb255 hg w20 hbox hb
                          have n0_ := Aside0.mk (Kd.R_below (Kd.R_elderB (by (with_reducible repeat (first | apply Kd.R_alloc | apply Kd.R_drewN | apply Kd.R_drew)); exact HO_7.out) gb255 (Nat.le_of_eq hg.symm)) hb)
                          have n1_ := Aside0.mk (below_step (by repeat (first | (with_reducible first | exact HB.out | apply below_alloc | apply pw_below_drewN | apply below_drew1) | exact HB.out)) hb)
                          have n2_ := Aside0.mk (hbox)
                          have n3_ := Aside0.mk ((by rw [hg]; exact (below_size (by repeat (first | (with_reducible first | exact HB.out | apply below_alloc | apply pw_below_drewN | apply below_drew1) | exact HB.out))) : w.heap.size ≤ gb255))
                          have n4_ := Aside0.mk ((by rw [hg]; exact (below_size (by repeat (first | (with_reducible first | exact HB.out | apply below_alloc | apply pw_below_drewN | apply below_drew1) | exact HB.out))) : w.heap.size ≤ gb255))
                          clear HO_7
                          clear HB
                          have HO_7 := n0_
                          have HB := n1_
                          have BK255 := n2_
                          have GW255 := n3_
                          have GE255 := n4_
                          clear n0_ n1_ n2_ n3_ n4_
                          clear hb hbox hg
                          refine hK.out _ _ ⟨((HB.out.cell (World.block_lt_of_cell? w _ hw253_0)).trans hw253_0), ((HB.out.cell (World.block_lt_of_cell? w _ hw254_0)).trans hw254_0)⟩ (fun hHeld => ?_)
                          clear hK K
                          refine norm_ (a' := ?_) ?_ ?_
                          rotate_left
                          · show Act.put _ (some 10) _ = _
                            simp only [Act.put, List.setIfInBounds_toArray, List.set_cons_zero, List.set_cons_succ, i64_w, i32_w]
                            rfl
                          refine one_ (i := 14) (N := none) #[true, true, true, true, true, true, true, true, true, true, true, true, true, true, true] rfl rfl (one_of HT_.out (by kernel_rfl)) (by decide) (fun K hK => ?_)
                          have hs21 : w20.cell? ⟨gb255, 0, none⟩ = some (.int .i64 0) := (blk_cell BK255.out 0).trans rfl
                          have hfs21 := blk_frozen BK255.out 0
                          have hs22 : w20.cell? ⟨gb255, 1, none⟩ = some (.int .i64 0) := (blk_cell BK255.out 1).trans rfl
                          have hfs22 := blk_frozen BK255.out 1
                          have hs23 : w20.cell? ⟨gb255, 2, none⟩ = some (.int .i64 0) := (blk_cell BK255.out 2).trans rfl
                          have hfs23 := blk_frozen BK255.out 2
                          refine skip_ (w1 := ?_) (by rfl) rfl ?_ ?_
                          rotate_left
                          · go_simp
                            rfl
                          refine hK.out _ _ ⟨((cell_far (p := ⟨gb255, _, none⟩) (by first | exact Nat.ne_of_lt (Nat.lt_of_lt_of_le (by have := World.block_lt_of_cell? _ _ hw253_0; first | rwa [add_block] at this | exact this) GW255.out) | (rw [add_block]; exact Nat.ne_of_lt (Nat.lt_of_lt_of_le (by have := World.block_lt_of_cell? _ _ hw253_0; first | rwa [add_block] at this | exact this) GW255.out)) | (show (Addr.add _ _).block ≠ _; rw [add_block]; exact Nat.ne_of_lt (Nat.lt_of_lt_of_le (by have := World.block_lt_of_cell? _ _ hw253_0; first | rwa [add_block] at this | exact this) GW255.out)) | (dsimp only; exact Nat.ne_of_lt (Nat.lt_of_lt_of_le (by have := World.block_lt_of_cell? _ _ hw253_0; first | rwa [add_block] at this | exact this) GW255.out))) _).trans (((cell_far (p := ⟨gb255, _, none⟩) (by first | exact Nat.ne_of_lt (Nat.lt_of_lt_of_le (by have := World.block_lt_of_cell? _ _ hw253_0; first | rwa [add_block] at this | exact this) GW255.out) | (rw [add_block]; exact Nat.ne_of_lt (Nat.lt_of_lt_of_le (by have := World.block_lt_of_cell? _ _ hw253_0; first | rwa [add_block] at this | exact this) GW255.out)) | (show (Addr.add _ _).block ≠ _; rw [add_block]; exact Nat.ne_of_lt (Nat.lt_of_lt_of_le (by have := World.block_lt_of_cell? _ _ hw253_0; first | rwa [add_block] at this | exact this) GW255.out)) | (dsimp only; exact Nat.ne_of_lt (Nat.lt_of_lt_of_le (by have := World.block_lt_of_cell? _ _ hw253_0; first | rwa [add_block] at this | exact this) GW255.out))) _).trans (((cell_far (p := ⟨gb255, _, none⟩) (by first | exact Nat.ne_of_lt (Nat.lt_of_lt_of_le (by have := World.block_lt_of_cell? _ _ hw253_0; first | rwa [add_block] at this | exact this) GW255.out) | (rw [add_block]; exact Nat.ne_of_lt (Nat.lt_of_lt_of_le (by have := World.block_lt_of_cell? _ _ hw253_0; first | rwa [add_block] at this | exact this) GW255.out)) | (show (Addr.add _ _).block ≠ _; rw [add_block]; exact Nat.ne_of_lt (Nat.lt_of_lt_of_le (by have := World.block_lt_of_cell? _ _ hw253_0; first | rwa [add_block] at this | exact this) GW255.out)) | (dsimp only; exact Nat.ne_of_lt (Nat.lt_of_lt_of_le (by have := World.block_lt_of_cell? _ _ hw253_0; first | rwa [add_block] at this | exact this) GW255.out))) _).trans (hHeld.1)))))), ((cell_far (p := ⟨gb255, _, none⟩) (by first | exact Nat.ne_of_lt (Nat.lt_of_lt_of_le (by have := World.block_lt_of_cell? _ _ hw254_0; first | rwa [add_block] at this | exact this) GW255.out) | (rw [add_block]; exact Nat.ne_of_lt (Nat.lt_of_lt_of_le (by have := World.block_lt_of_cell? _ _ hw254_0; first | rwa [add_block] at this | exact this) GW255.out)) | (show (Addr.add _ _).block ≠ _; rw [add_block]; exact Nat.ne_of_lt (Nat.lt_of_lt_of_le (by have := World.block_lt_of_cell? _ _ hw254_0; first | rwa [add_block] at this | exact this) GW255.out)) | (dsimp only; exact Nat.ne_of_lt (Nat.lt_of_lt_of_le (by have := World.block_lt_of_cell? _ _ hw254_0; first | rwa [add_block] at this | exact this) GW255.out))) _).trans (((cell_far (p := ⟨gb255, _, none⟩) (by first | exact Nat.ne_of_lt (Nat.lt_of_lt_of_le (by have := World.block_lt_of_cell? _ _ hw254_0; first | rwa [add_block] at this | exact this) GW255.out) | (rw [add_block]; exact Nat.ne_of_lt (Nat.lt_of_lt_of_le (by have := World.block_lt_of_cell? _ _ hw254_0; first | rwa [add_block] at this | exact this) GW255.out)) | (show (Addr.add _ _).block ≠ _; rw [add_block]; exact Nat.ne_of_lt (Nat.lt_of_lt_of_le (by have := World.block_lt_of_cell? _ _ hw254_0; first | rwa [add_block] at this | exact this) GW255.out)) | (dsimp only; exact Nat.ne_of_lt (Nat.lt_of_lt_of_le (by have := World.block_lt_of_cell? _ _ hw254_0; first | rwa [add_block] at this | exact this) GW255.out))) _).trans (((cell_far (p := ⟨gb255, _, none⟩) (by first | exact Nat.ne_of_lt (Nat.lt_of_lt_of_le (by have := World.block_lt_of_cell? _ _ hw254_0; first | rwa [add_block] at this | exact this) GW255.out) | (rw [add_block]; exact Nat.ne_of_lt (Nat.lt_of_lt_of_le (by have := World.block_lt_of_cell? _ _ hw254_0; first | rwa [add_block] at this | exact this) GW255.out)) | (show (Addr.add _ _).block ≠ _; rw [add_block]; exact Nat.ne_of_lt (Nat.lt_of_lt_of_le (by have := World.block_lt_of_cell? _ _ hw254_0; first | rwa [add_block] at this | exact this) GW255.out)) | (dsimp only; exact Nat.ne_of_lt (Nat.lt_of_lt_of_le (by have := World.block_lt_of_cell? _ _ hw254_0; first | rwa [add_block] at this | exact this) GW255.out))) _).trans (hHeld.2))))))⟩ (fun hHeld => ?_)
                          clear hK K
                          refine done_ (done_of HT_.out (by kernel_rfl)) ?_
                          have hcz24_0 : w20.cell? ⟨gb255, 0, none⟩ = some (.int .i64 0) := (blk_cell BK255.out 0).trans rfl
                          have hcz24_1 : w20.cell? ⟨gb255, 1, none⟩ = some (.int .i64 0) := (blk_cell BK255.out 1).trans rfl
                          have hcz24_2 : w20.cell? ⟨gb255, 2, none⟩ = some (.int .i64 0) := (blk_cell BK255.out 2).trans rfl
                          have hfz24_0 := blk_frozen BK255.out 0
                          have hfz24_1 := blk_frozen BK255.out 1
                          have hfz24_2 := blk_frozen BK255.out 2
                          try go_wp2_with (first | ((with_reducible refine gate_callee (f := 16) rfl ?_); refine goesL_ (some 51) rfl rfl Try.func16 (by kernel_rfl) rfl #[.agg #[.int .i64 (wrap64 (rd l0 (ji10))), .int .i64 (wrap64 (rd l0 (ji12))), .int .i64 (wrap64 ((wrap64 (rd l0 (ji6))) - 256))], .int .i64 a1] rfl (by (try simp only [List.map_toArray, List.map_cons, List.map_nil]); first | done | (simp only [hji10, hji12, hji6]; rfl) | rfl | (simp only [List.length_drop, List.length_take]; rfl)) ?_; (with_reducible refine (quarrelref11_Ok.calls k1 (wrap64 (rd l0 (ji10))) (wrap64 (rd l0 (ji12))) (wrap64 ((wrap64 (rd l0 (ji6))) - 256)) a1 true _ A15.out).mono ?_); rintro e w25 ⟨rfl, hb⟩; refine ⟨_, rfl, ?_⟩; have n0_ := Aside0.mk (Kd.R_below (by (with_reducible repeat (first | apply Kd.R_alloc | apply Kd.R_drewN | apply Kd.R_drew)); exact (Kd.R_mono (Kd.R_far (p := ⟨gb255, 2, none⟩) (Kd.R_far (p := ⟨gb255, 1, none⟩) (Kd.R_far (p := ⟨gb255, 0, none⟩) (Kd.R_mono HO_7.out (fun k_ hk => (⟨hk, hk.2⟩ : _ ∧ k_ ≠ gb255))) (fun _ hk => hk.2) (.int .i64 (wrap64 (rd l0 (ji10))))) (fun _ hk => hk.2) (.int .i64 (wrap64 (rd l0 (ji12))))) (fun _ hk => hk.2) (.int .i64 (wrap64 ((wrap64 (rd l0 (ji6))) - 256)))) (fun _ h_ => h_.1))) hb); have n1_ := Aside0.mk (blk_below (g := gb255) (o := .cells #[.int .i64 (wrap64 (rd l0 (ji10))), .int .i64 (wrap64 (rd l0 (ji12))), .int .i64 (wrap64 ((wrap64 (rd l0 (ji6))) - 256))] 33 (0, 0)) (by (with_reducible repeat (first | refine blk_drewN ?_ _ | refine blk_drew ?_ | refine blk_alloc ?_ _)); refine blk_put (cs := #[.int .i64 (wrap64 (rd l0 (ji10))), .int .i64 (wrap64 (rd l0 (ji12))), .int .i64 0]) ?_ 2 _ rfl; (with_reducible repeat (first | refine blk_drewN ?_ _ | refine blk_drew ?_ | refine blk_alloc ?_ _)); refine blk_put (cs := #[.int .i64 (wrap64 (rd l0 (ji10))), .int .i64 0, .int .i64 0]) ?_ 1 _ rfl; (with_reducible repeat (first | refine blk_drewN ?_ _ | refine blk_drew ?_ | refine blk_alloc ?_ _)); refine blk_put (cs := #[.int .i64 0, .int .i64 0, .int .i64 0]) ?_ 0 _ rfl; (with_reducible repeat (first | refine blk_drewN ?_ _ | refine blk_drew ?_ | refine blk_alloc ?_ _)); exact BK255.out) hb); have n2_ := Aside0.mk (below_step (by repeat (first | (with_reducible first | exact HB.out | apply below_alloc | apply pw_below_drewN | apply below_drew1 | refine below_set ?_ GE255.out) | exact HB.out)) hb); clear HO_7; clear BK255; clear HB; have HO_7 := n0_; have BK255 := n1_; have HB := n2_; clear n0_ n1_ n2_; (try clear hb); (try clear hb2); (try clear hk); (try clear hi); have hcz26_0 : w25.cell? ⟨gb255, 0, none⟩ = some (.int .i64 (wrap64 (rd l0 (ji10)))) := (blk_cell BK255.out 0).trans rfl; have hcz26_1 : w25.cell? ⟨gb255, 1, none⟩ = some (.int .i64 (wrap64 (rd l0 (ji12)))) := (blk_cell BK255.out 1).trans rfl; have hcz26_2 : w25.cell? ⟨gb255, 2, none⟩ = some (.int .i64 (wrap64 ((wrap64 (rd l0 (ji6))) - 256))) := (blk_cell BK255.out 2).trans rfl; have hfz26_0 := blk_frozen BK255.out 0; have hfz26_1 := blk_frozen BK255.out 1; have hfz26_2 := blk_frozen BK255.out 2) | ((with_reducible refine gate_builtin (b := .append) (xs := #[.tmp 54, .tmp 56]) rfl ?_); at_builtin; refine Kd.R_append k33 (w0 := w) w.heap.size rfl (.tmp 54) (.tmp 56) 22 33 (.agg #[(.int .i64 0), (.int .i64 0), (.int .i64 0)]) 24 rfl Try.underlying22 info33 rfl (by decide) (by omega) (.slice Ao18 x7_1.length co18) x7_1 (⟨wrap64 (rd l0 (ji10)), wrap64 (rd l0 (ji12)), wrap64 ((wrap64 (rd l0 (ji6))) - 256)⟩ : S33) [.int .i64 (wrap64 (rd l0 (ji10))), .int .i64 (wrap64 (rd l0 (ji12))), .int .i64 (wrap64 ((wrap64 (rd l0 (ji6))) - 256))] (fun k_ => k_ ≠ gb255) (fun _ => False) rfl rfl ?aP (fun _ hk => hk.elim) ?aF ?aO ?aB ?aS ?aL ?_; (case aP => exact k33_mkM _ _ _ (⟨wrap64 (rd l0 (ji10)), wrap64 (rd l0 (ji12)), wrap64 ((wrap64 (rd l0 (ji6))) - 256)⟩ : S33)); (case aB => exact (by repeat (first | (with_reducible first | exact HB.out | apply below_alloc | apply pw_below_drewN | apply below_drew1 | refine below_set ?_ GE255.out) | exact HB.out))); (case aF => exact (fun k_ hk => Kd.freshB (g := gb255) (o := .cells #[.int .i64 (wrap64 (rd l0 (ji10))), .int .i64 (wrap64 (rd l0 (ji12))), .int .i64 (wrap64 ((wrap64 (rd l0 (ji6))) - 256))] 33 (0, 0)) (by (with_reducible repeat (first | refine blk_drewN ?_ _ | refine blk_drew ?_ | refine blk_alloc ?_ _)); exact BK255.out) k_ hk)); (case aO => exact (by (with_reducible repeat (first | apply Kd.R_alloc | apply Kd.R_drewN | apply Kd.R_drew)); exact Kd.R_mono HO_7.out (fun _ hk => hk.2))); (case aS => exact (below_size (by repeat (first | (with_reducible first | exact HB.out | apply below_alloc | apply pw_below_drewN | apply below_drew1 | refine below_set ?_ GE255.out) | exact HB.out)))); (case aL => have := LMc17.out; omega); intro v258 w27 ho hb hg hat; rw [← Ny257.out] at ho; have n0_ := Aside0.mk (blk_grown (g := gb255) (o := .cells #[.int .i64 (wrap64 (rd l0 (ji10))), .int .i64 (wrap64 (rd l0 (ji12))), .int .i64 (wrap64 ((wrap64 (rd l0 (ji6))) - 256))] 33 (0, 0)) (by (with_reducible repeat (first | refine blk_drewN ?_ _ | refine blk_drew ?_ | refine blk_alloc ?_ _)); exact BK255.out) hg (Kd.R_away HO_7.out (fun _ hk => hk.2))); have n1_ := Aside0.mk (hb); have n2_ := Aside0.mk (ho); clear BK255; clear HB; clear HO_7; have BK255 := n0_; have HB := n1_; have HO259 := n2_; clear n0_ n1_ n2_; clear ho hb hg hat))
                          go_roundg k1
                          case measure => have := HK1.out; omega
                          case rel => exact ⟨(y257), H', ⟨by have := HK1.out; omega⟩, ⟨by (with_reducible repeat (first | apply Kd.R_alloc | apply Kd.R_drewN | apply Kd.R_drew)); exact Kd.R_mono HO259.out (fun _ hk => trivial)⟩, ⟨by repeat (first | (with_reducible first | exact HB.out | apply below_alloc | apply pw_below_drewN | apply below_drew1 | refine below_set ?_ GE255.out) | exact HB.out)⟩⟩
                        · rw [if_neg c17] at H
                          exact absurd H (by simp)
                      · replace c16 := Bool.eq_false_iff.mpr c16
                        subst c16
                        have H1 : (some (([] : List (S33)), ji10, 3)) = some (r1, r2, r3) := by rw [if_neg (show ¬ (false = true) by decide)] at H; exact H
                        clear H
                        have H := H1
                        clear H1
                        simp only [Option.some.injEq, Prod.mk.injEq] at H
                        obtain ⟨rfl, rfl, rfl⟩ := H
                        obtain ⟨Ao28, co28, eo28⟩ := Kd.R_slice HO_7.out
                        subst eo28
                        have p252 : 0 ≤ ((ji6) : Int) := of_decide_eq_true (by first | (with_reducible assumption) | assumption)
                        have q252 : (ji6) < (l0.length : Int) := of_decide_eq_true (by first | (with_reducible assumption) | assumption)
                        obtain ⟨ad252, e252, hx252_0⟩ := Kd.at_int HR0.out (ji6) p252 q252
                        cases e252
                        replace hx252_0 := (HB.out.cell (World.block_lt_of_cell? w _ hx252_0)).trans hx252_0
                        replace p252 := eq_true p252
                        replace q252 := eq_true q252
                        try go_wp2
                        have n0_ := Aside0.mk (Kd.R_drew HO_7.out)
                        have n1_ := Aside0.mk (below_drew1 HB.out)
                        clear HO_7
                        clear HB
                        have HO_7 := n0_
                        have HB := n1_
                        clear n0_ n1_
                        have p253 : 0 ≤ ((ji10) : Int) := of_decide_eq_true (by first | (with_reducible assumption) | assumption)
                        have q253 : (ji10) < (l0.length : Int) := of_decide_eq_true (by first | (with_reducible assumption) | assumption)
                        obtain ⟨ad253, e253, hx253_0⟩ := Kd.at_int HR0.out (ji10) p253 q253
                        have hw253_0 := hx253_0
                        obtain rfl : ad252 = ad253 := (by injection e253)
                        replace hx253_0 := (HB.out.cell (World.block_lt_of_cell? w _ hx253_0)).trans hx253_0
                        replace p253 := eq_true p253
                        replace q253 := eq_true q253
                        have p254 : 0 ≤ ((ji12) : Int) := of_decide_eq_true (by first | (with_reducible assumption) | assumption)
                        have q254 : (ji12) < (l0.length : Int) := of_decide_eq_true (by first | (with_reducible assumption) | assumption)
                        obtain ⟨ad254, e254, hx254_0⟩ := Kd.at_int HR0.out (ji12) p254 q254
                        have hw254_0 := hx254_0
                        obtain rfl : ad252 = ad254 := (by injection e254)
                        replace hx254_0 := (HB.out.cell (World.block_lt_of_cell? w _ hx254_0)).trans hx254_0
                        replace p254 := eq_true p254
                        replace q254 := eq_true q254
                        refine start_ (n := 15) (S := fun w' => w'.cell? (ad252.add ((ji10)).toNat) = some (.int .u8 (rd l0 (ji10))) ∧ w'.cell? (ad252.add ((ji12)).toNat) = some (.int .u8 (rd l0 (ji12)))) (ds := []) #[false, false, false, false, false, false, false, false, false, false, false, false, false, false, false] (by kernel_rfl) rfl rfl ⟨((HB.out.cell (World.block_lt_of_cell? w _ hw253_0)).trans hw253_0), ((HB.out.cell (World.block_lt_of_cell? w _ hw254_0)).trans hw254_0)⟩ (fun hHeld => ?_); refine with_tabW quarrelref11_Get.tab9 quarrelref11_Get.bits9 (fun HT_ HW_ => ?_)
                        generalize wr.drew = w29 at HO_7 HB hx253_0 hx254_0 hHeld ⊢
                        refine pure_ (i := 0) (N := some 36) (v := ?_) (a' := ?_) #[true, false, false, false, false, false, false, false, false, false, false, false, false, false, false] rfl rfl (any_of HT_.out (by kernel_rfl)) (fun _ _ _ h => h) (Or.inl ⟨by rfl, ?_⟩) ?_ ?_
                        rotate_left
                        · intro w'
                          go_simp
                          with_reducible rfl
                        rotate_left
                        · simp only [Act.put, List.setIfInBounds_toArray, List.set_cons_zero, List.set_cons_succ, i64_w, i32_w]
                          rfl
                        refine pure_ (i := 1) (N := some 37) (v := ?_) (a' := ?_) #[true, true, false, false, false, false, false, false, false, false, false, false, false, false, false] rfl rfl (any_of HT_.out (by kernel_rfl)) (fun _ _ _ h => h) (Or.inl ⟨by rfl, ?_⟩) ?_ ?_
                        rotate_left
                        · intro w'
                          go_simp
                          with_reducible rfl
                        rotate_left
                        · simp only [Act.put, List.setIfInBounds_toArray, List.set_cons_zero, List.set_cons_succ, i64_w, i32_w]
                          rfl
                        refine pure_ (i := 2) (N := some 38) (v := ?_) (a' := ?_) #[true, true, true, false, false, false, false, false, false, false, false, false, false, false, false] rfl rfl (any_of HT_.out (by kernel_rfl)) (fun _ _ _ h => h) (Or.inl ⟨by rfl, ?_⟩) ?_ ?_
                        rotate_left
                        · intro w'
                          go_simp
                          with_reducible rfl
                        rotate_left
                        · simp only [Act.put, List.setIfInBounds_toArray, List.set_cons_zero, List.set_cons_succ, i64_w, i32_w]
                          rfl
                        refine pure_ (i := 5) (N := some 41) (v := ?_) (a' := ?_) #[true, true, true, false, false, true, false, false, false, false, false, false, false, false, false] rfl rfl (any_of HT_.out (by kernel_rfl)) (fun _ _ _ h => h) (Or.inl ⟨by rfl, ?_⟩) ?_ ?_
                        rotate_left
                        · intro w'
                          go_simp
                          with_reducible rfl
                        rotate_left
                        · simp only [Act.put, List.setIfInBounds_toArray, List.set_cons_zero, List.set_cons_succ, i64_w, i32_w]
                          rfl
                        refine pure_ (i := 6) (N := some 42) (v := ?_) (a' := ?_) #[true, true, true, false, false, true, true, false, false, false, false, false, false, false, false] rfl rfl (any_of HT_.out (by kernel_rfl)) (fun _ _ _ h => h) (Or.inl ⟨by rfl, ?_⟩) ?_ ?_
                        rotate_left
                        · intro w'
                          go_simp
                          with_reducible rfl
                        rotate_left
                        · simp only [Act.put, List.setIfInBounds_toArray, List.set_cons_zero, List.set_cons_succ, i64_w, i32_w]
                          rfl
                        refine pure_ (i := 7) (N := some 43) (v := ?_) (a' := ?_) #[true, true, true, false, false, true, true, true, false, false, false, false, false, false, false] rfl rfl (any_of HT_.out (by kernel_rfl)) (fun _ _ _ h => h) (Or.inl ⟨by rfl, ?_⟩) ?_ ?_
                        rotate_left
                        · intro w'
                          go_simp
                          with_reducible rfl
                        rotate_left
                        · simp only [Act.put, List.setIfInBounds_toArray, List.set_cons_zero, List.set_cons_succ, i64_w, i32_w]
                          rfl
                        refine pure_ (i := 8) (N := some 44) (v := ?_) (a' := ?_) #[true, true, true, false, false, true, true, true, true, false, false, false, false, false, false] rfl rfl (any_of HT_.out (by kernel_rfl)) (fun _ _ _ h => h) (Or.inl ⟨by rfl, ?_⟩) ?_ ?_
                        rotate_left
                        · intro w'
                          go_simp
                          with_reducible rfl
                        rotate_left
                        · simp only [Act.put, List.setIfInBounds_toArray, List.set_cons_zero, List.set_cons_succ, i64_w, i32_w]
                          rfl
                        refine pure_ (i := 11) (N := some 47) (v := ?_) (a' := ?_) #[true, true, true, false, false, true, true, true, true, false, false, true, false, false, false] rfl rfl (any_of HT_.out (by kernel_rfl)) (fun _ _ _ h => h) (Or.inl ⟨by rfl, ?_⟩) ?_ ?_
                        rotate_left
                        · intro w'
                          go_simp
                          with_reducible rfl
                        rotate_left
                        · simp only [Act.put, List.setIfInBounds_toArray, List.set_cons_zero, List.set_cons_succ, i64_w, i32_w]
                          rfl
                        refine take_ (i := 3) (N := some 39) (v := ?_) (a' := ?_) #[true, true, true, true, false, true, true, true, true, false, false, true, false, false, false] rfl rfl (take_ofW HT_.out HW_.out (by kernel_rfl)) (fun _ _ _ h => h) (Or.inl ⟨by rfl, ?_⟩) hHeld ?_ ?_
                        rotate_left
                        · rintro w' ⟨s0, s1⟩
                          go_simp
                          with_reducible rfl
                        rotate_left
                        · simp only [Act.put, List.setIfInBounds_toArray, List.set_cons_zero, List.set_cons_succ, i64_w, i32_w]
                          rfl
                        refine pure_ (i := 4) (N := some 40) (v := ?_) (a' := ?_) #[true, true, true, true, true, true, true, true, true, false, false, true, false, false, false] rfl rfl (any_of HT_.out (by kernel_rfl)) (fun _ _ _ h => h) (Or.inl ⟨by rfl, ?_⟩) ?_ ?_
                        rotate_left
                        · intro w'
                          go_simp
                          with_reducible rfl
                        rotate_left
                        · simp only [Act.put, List.setIfInBounds_toArray, List.set_cons_zero, List.set_cons_succ, i64_w, i32_w]
                          rfl
                        refine take_ (i := 9) (N := some 45) (v := ?_) (a' := ?_) #[true, true, true, true, true, true, true, true, true, true, false, true, false, false, false] rfl rfl (take_ofW HT_.out HW_.out (by kernel_rfl)) (fun _ _ _ h => h) (Or.inl ⟨by rfl, ?_⟩) hHeld ?_ ?_
                        rotate_left
                        · rintro w' ⟨s0, s1⟩
                          go_simp
                          with_reducible rfl
                        rotate_left
                        · simp only [Act.put, List.setIfInBounds_toArray, List.set_cons_zero, List.set_cons_succ, i64_w, i32_w]
                          rfl
                        refine pure_ (i := 10) (N := some 46) (v := ?_) (a' := ?_) #[true, true, true, true, true, true, true, true, true, true, true, true, false, false, false] rfl rfl (any_of HT_.out (by kernel_rfl)) (fun _ _ _ h => h) (Or.inl ⟨by rfl, ?_⟩) ?_ ?_
                        rotate_left
                        · intro w'
                          go_simp
                          with_reducible rfl
                        rotate_left
                        · simp only [Act.put, List.setIfInBounds_toArray, List.set_cons_zero, List.set_cons_succ, i64_w, i32_w]
                          rfl
                        refine pure_ (i := 12) (N := some 48) (v := ?_) (a' := ?_) #[true, true, true, true, true, true, true, true, true, true, true, true, true, false, false] rfl rfl (any_of HT_.out (by kernel_rfl)) (fun _ _ _ h => h) (Or.inl ⟨by rfl, ?_⟩) ?_ ?_
                        rotate_left
                        · intro w'
                          go_simp
                          with_reducible rfl
                        rotate_left
                        · simp only [Act.put, List.setIfInBounds_toArray, List.set_cons_zero, List.set_cons_succ, i64_w, i32_w]
                          rfl
                        refine one_ (i := 13) (N := some 10) #[true, true, true, true, true, true, true, true, true, true, true, true, true, true, false] rfl rfl (one_of HT_.out (by kernel_rfl)) (by decide) (fun K hK => ?_)
                        refine box_step ?hg (N := 10) ?hd (cs := #[.int .i64 0, .int .i64 0, .int .i64 0]) (t := 33) ?hr ?_; (case hd => rfl); (case hg => rfl); (case hr => first | (go_simp; done) | (go_simp; rfl))
                        intro gb255 hg w30 hbox hb
                        have n0_ := Aside0.mk (Kd.R_below (Kd.R_elderB (by (with_reducible repeat (first | apply Kd.R_alloc | apply Kd.R_drewN | apply Kd.R_drew)); exact HO_7.out) gb255 (Nat.le_of_eq hg.symm)) hb)
                        have n1_ := Aside0.mk (below_step (by repeat (first | (with_reducible first | exact HB.out | apply below_alloc | apply pw_below_drewN | apply below_drew1) | exact HB.out)) hb)
                        have n2_ := Aside0.mk (hbox)
                        have n3_ := Aside0.mk ((by rw [hg]; exact (below_size (by repeat (first | (with_reducible first | exact HB.out | apply below_alloc | apply pw_below_drewN | apply below_drew1) | exact HB.out))) : w.heap.size ≤ gb255))
                        have n4_ := Aside0.mk ((by rw [hg]; exact (below_size (by repeat (first | (with_reducible first | exact HB.out | apply below_alloc | apply pw_below_drewN | apply below_drew1) | exact HB.out))) : w.heap.size ≤ gb255))
                        clear HO_7
                        clear HB
                        have HO_7 := n0_
                        have HB := n1_
                        have BK255 := n2_
                        have GW255 := n3_
                        have GE255 := n4_
                        clear n0_ n1_ n2_ n3_ n4_
                        clear hb hbox hg
                        refine hK.out _ _ ⟨((HB.out.cell (World.block_lt_of_cell? w _ hw253_0)).trans hw253_0), ((HB.out.cell (World.block_lt_of_cell? w _ hw254_0)).trans hw254_0)⟩ (fun hHeld => ?_)
                        clear hK K
                        refine norm_ (a' := ?_) ?_ ?_
                        rotate_left
                        · show Act.put _ (some 10) _ = _
                          simp only [Act.put, List.setIfInBounds_toArray, List.set_cons_zero, List.set_cons_succ, i64_w, i32_w]
                          rfl
                        refine one_ (i := 14) (N := none) #[true, true, true, true, true, true, true, true, true, true, true, true, true, true, true] rfl rfl (one_of HT_.out (by kernel_rfl)) (by decide) (fun K hK => ?_)
                        have hs31 : w30.cell? ⟨gb255, 0, none⟩ = some (.int .i64 0) := (blk_cell BK255.out 0).trans rfl
                        have hfs31 := blk_frozen BK255.out 0
                        have hs32 : w30.cell? ⟨gb255, 1, none⟩ = some (.int .i64 0) := (blk_cell BK255.out 1).trans rfl
                        have hfs32 := blk_frozen BK255.out 1
                        have hs33 : w30.cell? ⟨gb255, 2, none⟩ = some (.int .i64 0) := (blk_cell BK255.out 2).trans rfl
                        have hfs33 := blk_frozen BK255.out 2
                        refine skip_ (w1 := ?_) (by rfl) rfl ?_ ?_
                        rotate_left
                        · go_simp
                          rfl
                        refine hK.out _ _ ⟨((cell_far (p := ⟨gb255, _, none⟩) (by first | exact Nat.ne_of_lt (Nat.lt_of_lt_of_le (by have := World.block_lt_of_cell? _ _ hw253_0; first | rwa [add_block] at this | exact this) GW255.out) | (rw [add_block]; exact Nat.ne_of_lt (Nat.lt_of_lt_of_le (by have := World.block_lt_of_cell? _ _ hw253_0; first | rwa [add_block] at this | exact this) GW255.out)) | (show (Addr.add _ _).block ≠ _; rw [add_block]; exact Nat.ne_of_lt (Nat.lt_of_lt_of_le (by have := World.block_lt_of_cell? _ _ hw253_0; first | rwa [add_block] at this | exact this) GW255.out)) | (dsimp only; exact Nat.ne_of_lt (Nat.lt_of_lt_of_le (by have := World.block_lt_of_cell? _ _ hw253_0; first | rwa [add_block] at this | exact this) GW255.out))) _).trans (((cell_far (p := ⟨gb255, _, none⟩) (by first | exact Nat.ne_of_lt (Nat.lt_of_lt_of_le (by have := World.block_lt_of_cell? _ _ hw253_0; first | rwa [add_block] at this | exact this) GW255.out) | (rw [add_block]; exact Nat.ne_of_lt (Nat.lt_of_lt_of_le (by have := World.block_lt_of_cell? _ _ hw253_0; first | rwa [add_block] at this | exact this) GW255.out)) | (show (Addr.add _ _).block ≠ _; rw [add_block]; exact Nat.ne_of_lt (Nat.lt_of_lt_of_le (by have := World.block_lt_of_cell? _ _ hw253_0; first | rwa [add_block] at this | exact this) GW255.out)) | (dsimp only; exact Nat.ne_of_lt (Nat.lt_of_lt_of_le (by have := World.block_lt_of_cell? _ _ hw253_0; first | rwa [add_block] at this | exact this) GW255.out))) _).trans (((cell_far (p := ⟨gb255, _, none⟩) (by first | exact Nat.ne_of_lt (Nat.lt_of_lt_of_le (by have := World.block_lt_of_cell? _ _ hw253_0; first | rwa [add_block] at this | exact this) GW255.out) | (rw [add_block]; exact Nat.ne_of_lt (Nat.lt_of_lt_of_le (by have := World.block_lt_of_cell? _ _ hw253_0; first | rwa [add_block] at this | exact this) GW255.out)) | (show (Addr.add _ _).block ≠ _; rw [add_block]; exact Nat.ne_of_lt (Nat.lt_of_lt_of_le (by have := World.block_lt_of_cell? _ _ hw253_0; first | rwa [add_block] at this | exact this) GW255.out)) | (dsimp only; exact Nat.ne_of_lt (Nat.lt_of_lt_of_le (by have := World.block_lt_of_cell? _ _ hw253_0; first | rwa [add_block] at this | exact this) GW255.out))) _).trans (hHeld.1)))))), ((cell_far (p := ⟨gb255, _, none⟩) (by first | exact Nat.ne_of_lt (Nat.lt_of_lt_of_le (by have := World.block_lt_of_cell? _ _ hw254_0; first | rwa [add_block] at this | exact this) GW255.out) | (rw [add_block]; exact Nat.ne_of_lt (Nat.lt_of_lt_of_le (by have := World.block_lt_of_cell? _ _ hw254_0; first | rwa [add_block] at this | exact this) GW255.out)) | (show (Addr.add _ _).block ≠ _; rw [add_block]; exact Nat.ne_of_lt (Nat.lt_of_lt_of_le (by have := World.block_lt_of_cell? _ _ hw254_0; first | rwa [add_block] at this | exact this) GW255.out)) | (dsimp only; exact Nat.ne_of_lt (Nat.lt_of_lt_of_le (by have := World.block_lt_of_cell? _ _ hw254_0; first | rwa [add_block] at this | exact this) GW255.out))) _).trans (((cell_far (p := ⟨gb255, _, none⟩) (by first | exact Nat.ne_of_lt (Nat.lt_of_lt_of_le (by have := World.block_lt_of_cell? _ _ hw254_0; first | rwa [add_block] at this | exact this) GW255.out) | (rw [add_block]; exact Nat.ne_of_lt (Nat.lt_of_lt_of_le (by have := World.block_lt_of_cell? _ _ hw254_0; first | rwa [add_block] at this | exact this) GW255.out)) | (show (Addr.add _ _).block ≠ _; rw [add_block]; exact Nat.ne_of_lt (Nat.lt_of_lt_of_le (by have := World.block_lt_of_cell? _ _ hw254_0; first | rwa [add_block] at this | exact this) GW255.out)) | (dsimp only; exact Nat.ne_of_lt (Nat.lt_of_lt_of_le (by have := World.block_lt_of_cell? _ _ hw254_0; first | rwa [add_block] at this | exact this) GW255.out))) _).trans (((cell_far (p := ⟨gb255, _, none⟩) (by first | exact Nat.ne_of_lt (Nat.lt_of_lt_of_le (by have := World.block_lt_of_cell? _ _ hw254_0; first | rwa [add_block] at this | exact this) GW255.out) | (rw [add_block]; exact Nat.ne_of_lt (Nat.lt_of_lt_of_le (by have := World.block_lt_of_cell? _ _ hw254_0; first | rwa [add_block] at this | exact this) GW255.out)) | (show (Addr.add _ _).block ≠ _; rw [add_block]; exact Nat.ne_of_lt (Nat.lt_of_lt_of_le (by have := World.block_lt_of_cell? _ _ hw254_0; first | rwa [add_block] at this | exact this) GW255.out)) | (dsimp only; exact Nat.ne_of_lt (Nat.lt_of_lt_of_le (by have := World.block_lt_of_cell? _ _ hw254_0; first | rwa [add_block] at this | exact this) GW255.out))) _).trans (hHeld.2))))))⟩ (fun hHeld => ?_)
                        clear hK K
                        refine done_ (done_of HT_.out (by kernel_rfl)) ?_
                        have hcz34_0 : w30.cell? ⟨gb255, 0, none⟩ = some (.int .i64 0) := (blk_cell BK255.out 0).trans rfl
                        have hcz34_1 : w30.cell? ⟨gb255, 1, none⟩ = some (.int .i64 0) := (blk_cell BK255.out 1).trans rfl
                        have hcz34_2 : w30.cell? ⟨gb255, 2, none⟩ = some (.int .i64 0) := (blk_cell BK255.out 2).trans rfl
                        have hfz34_0 := blk_frozen BK255.out 0
                        have hfz34_1 := blk_frozen BK255.out 1
                        have hfz34_2 := blk_frozen BK255.out 2
                        try go_wp2_with (first | ((with_reducible refine gate_callee (f := 16) rfl ?_); refine goesL_ (some 51) rfl rfl Try.func16 (by kernel_rfl) rfl #[.agg #[.int .i64 (wrap64 (rd l0 (ji10))), .int .i64 (wrap64 (rd l0 (ji12))), .int .i64 (wrap64 ((wrap64 (rd l0 (ji6))) - 256))], .int .i64 a1] rfl (by (try simp only [List.map_toArray, List.map_cons, List.map_nil]); first | done | (simp only [hji10, hji12, hji6]; rfl) | rfl | (simp only [List.length_drop, List.length_take]; rfl)) ?_; (with_reducible refine (quarrelref11_Ok.calls k1 (wrap64 (rd l0 (ji10))) (wrap64 (rd l0 (ji12))) (wrap64 ((wrap64 (rd l0 (ji6))) - 256)) a1 false _ A15.out).mono ?_); rintro e w35 ⟨rfl, hb⟩; refine ⟨_, rfl, ?_⟩; have n0_ := Aside0.mk (Kd.R_below (by (with_reducible repeat (first | apply Kd.R_alloc | apply Kd.R_drewN | apply Kd.R_drew)); exact (Kd.R_mono (Kd.R_far (p := ⟨gb255, 2, none⟩) (Kd.R_far (p := ⟨gb255, 1, none⟩) (Kd.R_far (p := ⟨gb255, 0, none⟩) (Kd.R_mono HO_7.out (fun k_ hk => (⟨hk, hk.2⟩ : _ ∧ k_ ≠ gb255))) (fun _ hk => hk.2) (.int .i64 (wrap64 (rd l0 (ji10))))) (fun _ hk => hk.2) (.int .i64 (wrap64 (rd l0 (ji12))))) (fun _ hk => hk.2) (.int .i64 (wrap64 ((wrap64 (rd l0 (ji6))) - 256)))) (fun _ h_ => h_.1))) hb); have n1_ := Aside0.mk (blk_below (g := gb255) (o := .cells #[.int .i64 (wrap64 (rd l0 (ji10))), .int .i64 (wrap64 (rd l0 (ji12))), .int .i64 (wrap64 ((wrap64 (rd l0 (ji6))) - 256))] 33 (0, 0)) (by (with_reducible repeat (first | refine blk_drewN ?_ _ | refine blk_drew ?_ | refine blk_alloc ?_ _)); refine blk_put (cs := #[.int .i64 (wrap64 (rd l0 (ji10))), .int .i64 (wrap64 (rd l0 (ji12))), .int .i64 0]) ?_ 2 _ rfl; (with_reducible repeat (first | refine blk_drewN ?_ _ | refine blk_drew ?_ | refine blk_alloc ?_ _)); refine blk_put (cs := #[.int .i64 (wrap64 (rd l0 (ji10))), .int .i64 0, .int .i64 0]) ?_ 1 _ rfl; (with_reducible repeat (first | refine blk_drewN ?_ _ | refine blk_drew ?_ | refine blk_alloc ?_ _)); refine blk_put (cs := #[.int .i64 0, .int .i64 0, .int .i64 0]) ?_ 0 _ rfl; (with_reducible repeat (first | refine blk_drewN ?_ _ | refine blk_drew ?_ | refine blk_alloc ?_ _)); exact BK255.out) hb); have n2_ := Aside0.mk (below_step (by repeat (first | (with_reducible first | exact HB.out | apply below_alloc | apply pw_below_drewN | apply below_drew1 | refine below_set ?_ GE255.out) | exact HB.out)) hb); clear HO_7; clear BK255; clear HB; have HO_7 := n0_; have BK255 := n1_; have HB := n2_; clear n0_ n1_ n2_; (try clear hb); (try clear hb2); (try clear hk); (try clear hi)))
                        go_ret3
                        exact ⟨_, by first | rfl | (simp [errW_none, errW_some] <;> rfl) | (simp only [← hji6, ← hji10, ← hji12]; first | rfl | (simp [errW_none, errW_some] <;> rfl)) | (simp [*, errW_none, errW_some] <;> rfl), by first | exact Kd.R_nil _ _ _ _ _ | exact Kd.N_nil _ _ _ _ _ | exact Kd.V_nil _ _ _ _ _ | exact Kd.Q_nil _ _ _ _ _ | exact Kd.S_nil _ _ _ _ _, by repeat (first | (with_reducible first | exact HB.out | apply below_alloc | apply pw_below_drewN | apply below_drew1 | refine below_set ?_ GE255.out) | exact HB.out)⟩
                    · rw [if_neg c14] at H
                      exact absurd H (by simp)
                  · rw [if_neg c13] at H
                    exact absurd H (by simp)
                · rw [if_neg c11] at H
                  exact absurd H (by simp)
              · rw [if_neg c9] at H
                have c9b0 : decide (127 < (wrap64 (rd l0 (ji6)))) = false := decide_eq_false c9
                clear c9
                obtain ⟨ji36, hji36⟩ : ∃ j_ : Int, (wrap64 ((x7_1.length : Int) * 3)) = j_ := ⟨_, rfl⟩
                replace H : (if 0 ≤ (ji36) then (if 0 ≤ (wrap64 ((ji36) + 1)) then (if (wrap64 ((ji36) + 1)) < (l0.length : Int) then ((quarrelref11_Ok.f k1 (wrap64 (rd l0 (ji36))) (wrap64 (rd l0 (wrap64 ((ji36) + 1)))) (wrap64 (rd l0 (ji6))) a1).bind fun t263 => (if t263 = true then (if x7_1.length < 5864062014805 then (quarrelref11_Get.l0 k1 l0 a1 (x7_1 ++ [(⟨wrap64 (rd l0 (ji36)), wrap64 (rd l0 (wrap64 ((ji36) + 1))), wrap64 (rd l0 (ji6))⟩ : S33)])) else (none)) else (some (([] : List (S33)), ji36, 3)))) else (none)) else (none)) else (none)) = some (r1, r2, r3) := by first | (rw [hji36] at H; exact H) | (simp only [hji36] at H ⊢; exact H)
                (try rw [hji36] at c3b0)
                (try rw [hji36] at c4b0)
                have hji36w : (IntKind.i64.wrap ((x7_1.length : Int) * 3)) = ji36 := (i64_w _).trans hji36
                (try rw [hji36] at hji6)
                (try rw [hji36] at hji6w)
                by_cases c37 : 0 ≤ (ji36)
                · rw [if_pos c37] at H
                  have c37b0 : decide (0 ≤ (ji36)) = true := decide_eq_true c37
                  clear c37
                  obtain ⟨ji38, hji38⟩ : ∃ j_ : Int, (wrap64 ((ji36) + 1)) = j_ := ⟨_, rfl⟩
                  replace H : (if 0 ≤ (ji38) then (if (ji38) < (l0.length : Int) then ((quarrelref11_Ok.f k1 (wrap64 (rd l0 (ji36))) (wrap64 (rd l0 (ji38))) (wrap64 (rd l0 (ji6))) a1).bind fun t263 => (if t263 = true then (if x7_1.length < 5864062014805 then (quarrelref11_Get.l0 k1 l0 a1 (x7_1 ++ [(⟨wrap64 (rd l0 (ji36)), wrap64 (rd l0 (ji38)), wrap64 (rd l0 (ji6))⟩ : S33)])) else (none)) else (some (([] : List (S33)), ji36, 3)))) else (none)) else (none)) = some (r1, r2, r3) := by first | (rw [hji38] at H; exact H) | (simp only [hji38] at H ⊢; exact H)
                  have hji38w : (IntKind.i64.wrap ((ji36) + 1)) = ji38 := (i64_w _).trans hji38
                  (try rw [hji38] at hji6)
                  (try rw [hji38] at hji6w)
                  (try rw [hji38] at hji36)
                  (try rw [hji38] at hji36w)
                  by_cases c39 : 0 ≤ (ji38)
                  · rw [if_pos c39] at H
                    have c39b0 : decide (0 ≤ (ji38)) = true := decide_eq_true c39
                    clear c39
                    by_cases c40 : (ji38) < (l0.length : Int)
                    · rw [if_pos c40] at H
                      have c40b0 : decide ((ji38) < (l0.length : Int)) = true := decide_eq_true c40
                      clear c40
                      replace H := Option.bind_eq_some_iff.mp H
                      obtain ⟨t263, A410, H⟩ := H
                      replace H : (if t263 = true then (if x7_1.length < 5864062014805 then (quarrelref11_Get.l0 k1 l0 a1 (x7_1 ++ [(⟨wrap64 (rd l0 (ji36)), wrap64 (rd l0 (ji38)), wrap64 (rd l0 (ji6))⟩ : S33)])) else (none)) else (some (([] : List (S33)), ji36, 3))) = some (r1, r2, r3) := H
                      have A41 := Aside0.mk A410
                      clear A410
                      by_cases c42 : t263 = true
                      · subst c42
                        have H1 : (if x7_1.length < 5864062014805 then (quarrelref11_Get.l0 k1 l0 a1 (x7_1 ++ [(⟨wrap64 (rd l0 (ji36)), wrap64 (rd l0 (ji38)), wrap64 (rd l0 (ji6))⟩ : S33)])) else (none)) = some (r1, r2, r3) := by rw [if_pos rfl] at H; exact H
                        clear H
                        have H := H1
                        clear H1
                        by_cases c43 : x7_1.length < 5864062014805
                        · rw [if_pos c43] at H
                          have LMc43 := Aside0.mk c43
                          clear c43
                          obtain ⟨y264, hy264⟩ : ∃ y_ : List (S33), y_ = (x7_1 ++ [(⟨wrap64 (rd l0 (ji36)), wrap64 (rd l0 (ji38)), wrap64 (rd l0 (ji6))⟩ : S33)]) := ⟨_, rfl⟩
                          replace H : (quarrelref11_Get.l0 k1 l0 a1 y264) = some (r1, r2, r3) := by first | (rw [hy264]; with_reducible exact H) | (have H2_ := (Option.bind_some _ _).symm.trans H; rw [hy264]; with_reducible exact H2_) | (have H2_ := (Option.bind_some _ _).symm.trans H; with_reducible exact H2_) | with_reducible exact H | (rw [hy264]; exact H) | exact H
                          have Ny264 := Aside0.mk hy264
                          clear hy264
                          have H' := Aside0.mk H
                          clear H
                          obtain ⟨Ao44, co44, eo44⟩ := Kd.R_slice HO_7.out
                          subst eo44
                          have p252 : 0 ≤ ((ji6) : Int) := of_decide_eq_true (by first | (with_reducible assumption) | assumption)
                          have q252 : (ji6) < (l0.length : Int) := of_decide_eq_true (by first | (with_reducible assumption) | assumption)
                          obtain ⟨ad252, e252, hx252_0⟩ := Kd.at_int HR0.out (ji6) p252 q252
                          cases e252
                          replace hx252_0 := (HB.out.cell (World.block_lt_of_cell? w _ hx252_0)).trans hx252_0
                          replace p252 := eq_true p252
                          replace q252 := eq_true q252
                          try go_wp2
                          have n0_ := Aside0.mk (Kd.R_drew HO_7.out)
                          have n1_ := Aside0.mk (below_drew1 HB.out)
                          clear HO_7
                          clear HB
                          have HO_7 := n0_
                          have HB := n1_
                          clear n0_ n1_
                          have p260 : 0 ≤ ((ji36) : Int) := of_decide_eq_true (by first | (with_reducible assumption) | assumption)
                          have q260 : (ji36) < (l0.length : Int) := of_decide_eq_true (by first | (with_reducible assumption) | assumption)
                          obtain ⟨ad260, e260, hx260_0⟩ := Kd.at_int HR0.out (ji36) p260 q260
                          have hw260_0 := hx260_0
                          obtain rfl : ad252 = ad260 := (by injection e260)
                          replace hx260_0 := (HB.out.cell (World.block_lt_of_cell? w _ hx260_0)).trans hx260_0
                          replace p260 := eq_true p260
                          replace q260 := eq_true q260
                          have p261 : 0 ≤ ((ji38) : Int) := of_decide_eq_true (by first | (with_reducible assumption) | assumption)
                          have q261 : (ji38) < (l0.length : Int) := of_decide_eq_true (by first | (with_reducible assumption) | assumption)
                          obtain ⟨ad261, e261, hx261_0⟩ := Kd.at_int HR0.out (ji38) p261 q261
                          have hw261_0 := hx261_0
                          obtain rfl : ad252 = ad261 := (by injection e261)
                          replace hx261_0 := (HB.out.cell (World.block_lt_of_cell? w _ hx261_0)).trans hx261_0
                          replace p261 := eq_true p261
                          replace q261 := eq_true q261
                          refine start_ (n := 15) (S := fun w' => w'.cell? (ad252.add ((ji36)).toNat) = some (.int .u8 (rd l0 (ji36))) ∧ w'.cell? (ad252.add ((ji38)).toNat) = some (.int .u8 (rd l0 (ji38)))) (ds := []) #[false, false, false, false, false, false, false, false, false, false, false, false, false, false, false] (by kernel_rfl) rfl rfl ⟨((HB.out.cell (World.block_lt_of_cell? w _ hw260_0)).trans hw260_0), ((HB.out.cell (World.block_lt_of_cell? w _ hw261_0)).trans hw261_0)⟩ (fun hHeld => ?_); refine with_tabW quarrelref11_Get.tab9 quarrelref11_Get.bits9 (fun HT_ HW_ => ?_)
                          generalize wr.drew = w45 at HO_7 HB hx260_0 hx261_0 hHeld ⊢
                          refine pure_ (i := 0) (N := some 36) (v := ?_) (a' := ?_) #[true, false, false, false, false, false, false, false, false, false, false, false, false, false, false] rfl rfl (any_of HT_.out (by kernel_rfl)) (fun _ _ _ h => h) (Or.inl ⟨by rfl, ?_⟩) ?_ ?_
                          rotate_left
                          · intro w'
                            go_simp
                            with_reducible rfl
                          rotate_left
                          · simp only [Act.put, List.setIfInBounds_toArray, List.set_cons_zero, List.set_cons_succ, i64_w, i32_w]
                            rfl
                          refine pure_ (i := 1) (N := some 37) (v := ?_) (a' := ?_) #[true, true, false, false, false, false, false, false, false, false, false, false, false, false, false] rfl rfl (any_of HT_.out (by kernel_rfl)) (fun _ _ _ h => h) (Or.inl ⟨by rfl, ?_⟩) ?_ ?_
                          rotate_left
                          · intro w'
                            go_simp
                            with_reducible rfl
                          rotate_left
                          · simp only [Act.put, List.setIfInBounds_toArray, List.set_cons_zero, List.set_cons_succ, i64_w, i32_w]
                            rfl
                          refine pure_ (i := 2) (N := some 38) (v := ?_) (a' := ?_) #[true, true, true, false, false, false, false, false, false, false, false, false, false, false, false] rfl rfl (any_of HT_.out (by kernel_rfl)) (fun _ _ _ h => h) (Or.inl ⟨by rfl, ?_⟩) ?_ ?_
                          rotate_left
                          · intro w'
                            go_simp
                            with_reducible rfl
                          rotate_left
                          · simp only [Act.put, List.setIfInBounds_toArray, List.set_cons_zero, List.set_cons_succ, i64_w, i32_w]
                            rfl
                          refine pure_ (i := 5) (N := some 41) (v := ?_) (a' := ?_) #[true, true, true, false, false, true, false, false, false, false, false, false, false, false, false] rfl rfl (any_of HT_.out (by kernel_rfl)) (fun _ _ _ h => h) (Or.inl ⟨by rfl, ?_⟩) ?_ ?_
                          rotate_left
                          · intro w'
                            go_simp
                            with_reducible rfl
                          rotate_left
                          · simp only [Act.put, List.setIfInBounds_toArray, List.set_cons_zero, List.set_cons_succ, i64_w, i32_w]
                            rfl
                          refine pure_ (i := 6) (N := some 42) (v := ?_) (a' := ?_) #[true, true, true, false, false, true, true, false, false, false, false, false, false, false, false] rfl rfl (any_of HT_.out (by kernel_rfl)) (fun _ _ _ h => h) (Or.inl ⟨by rfl, ?_⟩) ?_ ?_
                          rotate_left
                          · intro w'
                            go_simp
                            with_reducible rfl
                          rotate_left
                          · simp only [Act.put, List.setIfInBounds_toArray, List.set_cons_zero, List.set_cons_succ, i64_w, i32_w]
                            rfl
                          refine pure_ (i := 7) (N := some 43) (v := ?_) (a' := ?_) #[true, true, true, false, false, true, true, true, false, false, false, false, false, false, false] rfl rfl (any_of HT_.out (by kernel_rfl)) (fun _ _ _ h => h) (Or.inl ⟨by rfl, ?_⟩) ?_ ?_
                          rotate_left
                          · intro w'
                            go_simp
                            with_reducible rfl
                          rotate_left
                          · simp only [Act.put, List.setIfInBounds_toArray, List.set_cons_zero, List.set_cons_succ, i64_w, i32_w]
                            rfl
                          refine pure_ (i := 8) (N := some 44) (v := ?_) (a' := ?_) #[true, true, true, false, false, true, true, true, true, false, false, false, false, false, false] rfl rfl (any_of HT_.out (by kernel_rfl)) (fun _ _ _ h => h) (Or.inl ⟨by rfl, ?_⟩) ?_ ?_
                          rotate_left
                          · intro w'
                            go_simp
                            with_reducible rfl
                          rotate_left
                          · simp only [Act.put, List.setIfInBounds_toArray, List.set_cons_zero, List.set_cons_succ, i64_w, i32_w]
                            rfl
                          refine pure_ (i := 11) (N := some 47) (v := ?_) (a' := ?_) #[true, true, true, false, false, true, true, true, true, false, false, true, false, false, false] rfl rfl (any_of HT_.out (by kernel_rfl)) (fun _ _ _ h => h) (Or.inl ⟨by rfl, ?_⟩) ?_ ?_
                          rotate_left
                          · intro w'
                            go_simp
                            with_reducible rfl
                          rotate_left
                          · simp only [Act.put, List.setIfInBounds_toArray, List.set_cons_zero, List.set_cons_succ, i64_w, i32_w]
                            rfl
                          refine take_ (i := 3) (N := some 39) (v := ?_) (a' := ?_) #[true, true, true, true, false, true, true, true, true, false, false, true, false, false, false] rfl rfl (take_ofW HT_.out HW_.out (by kernel_rfl)) (fun _ _ _ h => h) (Or.inl ⟨by rfl, ?_⟩) hHeld ?_ ?_
                          rotate_left
                          · rintro w' ⟨s0, s1⟩
                            go_simp
                            with_reducible rfl
                          rotate_left
                          · simp only [Act.put, List.setIfInBounds_toArray, List.set_cons_zero, List.set_cons_succ, i64_w, i32_w]
                            rfl
                          refine pure_ (i := 4) (N := some 40) (v := ?_) (a' := ?_) #[true, true, true, true, true, true, true, true, true, false, false, true, false, false, false] rfl rfl (any_of HT_.out (by kernel_rfl)) (fun _ _ _ h => h) (Or.inl ⟨by rfl, ?_⟩) ?_ ?_
                          rotate_left
                          · intro w'
                            go_simp
                            with_reducible rfl
                          rotate_left
                          · simp only [Act.put, List.setIfInBounds_toArray, List.set_cons_zero, List.set_cons_succ, i64_w, i32_w]
                            rfl
                          refine take_ (i := 9) (N := some 45) (v := ?_) (a' := ?_) #[true, true, true, true, true, true, true, true, true, true, false, true, false, false, false] rfl rfl (take_ofW HT_.out HW_.out (by kernel_rfl)) (fun _ _ _ h => h) (Or.inl ⟨by rfl, ?_⟩) hHeld ?_ ?_
                          rotate_left
                          · rintro w' ⟨s0, s1⟩
                            go_simp
                            with_reducible rfl
                          rotate_left
                          · simp only [Act.put, List.setIfInBounds_toArray, List.set_cons_zero, List.set_cons_succ, i64_w, i32_w]
                            rfl
                          refine pure_ (i := 10) (N := some 46) (v := ?_) (a' := ?_) #[true, true, true, true, true, true, true, true, true, true, true, true, false, false, false] rfl rfl (any_of HT_.out (by kernel_rfl)) (fun _ _ _ h => h) (Or.inl ⟨by rfl, ?_⟩) ?_ ?_
                          rotate_left
                          · intro w'
                            go_simp
                            with_reducible rfl
                          rotate_left
                          · simp only [Act.put, List.setIfInBounds_toArray, List.set_cons_zero, List.set_cons_succ, i64_w, i32_w]
                            rfl
                          refine pure_ (i := 12) (N := some 48) (v := ?_) (a' := ?_) #[true, true, true, true, true, true, true, true, true, true, true, true, true, false, false] rfl rfl (any_of HT_.out (by kernel_rfl)) (fun _ _ _ h => h) (Or.inl ⟨by rfl, ?_⟩) ?_ ?_
                          rotate_left
                          · intro w'
                            go_simp
                            with_reducible rfl
                          rotate_left
                          · simp only [Act.put, List.setIfInBounds_toArray, List.set_cons_zero, List.set_cons_succ, i64_w, i32_w]
                            rfl
                          refine one_ (i := 13) (N := some 10) #[true, true, true, true, true, true, true, true, true, true, true, true, true, true, false] rfl rfl (one_of HT_.out (by kernel_rfl)) (by decide) (fun K hK => ?_)
                          refine box_step ?hg (N := 10) ?hd (cs := #[.int .i64 0, .int .i64 0, .int .i64 0]) (t := 33) ?hr ?_; (case hd => rfl); (case hg => rfl); (case hr => first | (go_simp; done) | (go_simp; rfl))
                          intro gb262 hg w46 hbox hb
                          have n0_ := Aside0.mk (Kd.R_below (Kd.R_elderB (by (with_reducible repeat (first | apply Kd.R_alloc | apply Kd.R_drewN | apply Kd.R_drew)); exact HO_7.out) gb262 (Nat.le_of_eq hg.symm)) hb)
                          have n1_ := Aside0.mk (below_step (by repeat (first | (with_reducible first | exact HB.out | apply below_alloc | apply pw_below_drewN | apply below_drew1) | exact HB.out)) hb)
                          have n2_ := Aside0.mk (hbox)
                          have n3_ := Aside0.mk ((by rw [hg]; exact (below_size (by repeat (first | (with_reducible first | exact HB.out | apply below_alloc | apply pw_below_drewN | apply below_drew1) | exact HB.out))) : w.heap.size ≤ gb262))
                          have n4_ := Aside0.mk ((by rw [hg]; exact (below_size (by repeat (first | (with_reducible first | exact HB.out | apply below_alloc | apply pw_below_drewN | apply below_drew1) | exact HB.out))) : w.heap.size ≤ gb262))
                          clear HO_7
                          clear HB
                          have HO_7 := n0_
                          have HB := n1_
                          have BK262 := n2_
                          have GW262 := n3_
                          have GE262 := n4_
                          clear n0_ n1_ n2_ n3_ n4_
                          clear hb hbox hg
                          refine hK.out _ _ ⟨((HB.out.cell (World.block_lt_of_cell? w _ hw260_0)).trans hw260_0), ((HB.out.cell (World.block_lt_of_cell? w _ hw261_0)).trans hw261_0)⟩ (fun hHeld => ?_)
                          clear hK K
                          refine norm_ (a' := ?_) ?_ ?_
                          rotate_left
                          · show Act.put _ (some 10) _ = _
                            simp only [Act.put, List.setIfInBounds_toArray, List.set_cons_zero, List.set_cons_succ, i64_w, i32_w]
                            rfl
                          refine one_ (i := 14) (N := none) #[true, true, true, true, true, true, true, true, true, true, true, true, true, true, true] rfl rfl (one_of HT_.out (by kernel_rfl)) (by decide) (fun K hK => ?_)
                          have hs47 : w46.cell? ⟨gb262, 0, none⟩ = some (.int .i64 0) := (blk_cell BK262.out 0).trans rfl
                          have hfs47 := blk_frozen BK262.out 0
                          have hs48 : w46.cell? ⟨gb262, 1, none⟩ = some (.int .i64 0) := (blk_cell BK262.out 1).trans rfl
                          have hfs48 := blk_frozen BK262.out 1
                          have hs49 : w46.cell? ⟨gb262, 2, none⟩ = some (.int .i64 0) := (blk_cell BK262.out 2).trans rfl
                          have hfs49 := blk_frozen BK262.out 2
                          refine skip_ (w1 := ?_) (by rfl) rfl ?_ ?_
                          rotate_left
                          · go_simp
                            rfl
                          refine hK.out _ _ ⟨((cell_far (p := ⟨gb262, _, none⟩) (by first | exact Nat.ne_of_lt (Nat.lt_of_lt_of_le (by have := World.block_lt_of_cell? _ _ hw260_0; first | rwa [add_block] at this | exact this) GW262.out) | (rw [add_block]; exact Nat.ne_of_lt (Nat.lt_of_lt_of_le (by have := World.block_lt_of_cell? _ _ hw260_0; first | rwa [add_block] at this | exact this) GW262.out)) | (show (Addr.add _ _).block ≠ _; rw [add_block]; exact Nat.ne_of_lt (Nat.lt_of_lt_of_le (by have := World.block_lt_of_cell? _ _ hw260_0; first | rwa [add_block] at this | exact this) GW262.out)) | (dsimp only; exact Nat.ne_of_lt (Nat.lt_of_lt_of_le (by have := World.block_lt_of_cell? _ _ hw260_0; first | rwa [add_block] at this | exact this) GW262.out))) _).trans (((cell_far (p := ⟨gb262, _, none⟩) (by first | exact Nat.ne_of_lt (Nat.lt_of_lt_of_le (by have := World.block_lt_of_cell? _ _ hw260_0; first | rwa [add_block] at this | exact this) GW262.out) | (rw [add_block]; exact Nat.ne_of_lt (Nat.lt_of_lt_of_le (by have := World.block_lt_of_cell? _ _ hw260_0; first | rwa [add_block] at this | exact this) GW262.out)) | (show (Addr.add _ _).block ≠ _; rw [add_block]; exact Nat.ne_of_lt (Nat.lt_of_lt_of_le (by have := World.block_lt_of_cell? _ _ hw260_0; first | rwa [add_block] at this | exact this) GW262.out)) | (dsimp only; exact Nat.ne_of_lt (Nat.lt_of_lt_of_le (by have := World.block_lt_of_cell? _ _ hw260_0; first | rwa [add_block] at this | exact this) GW262.out))) _).trans (((cell_far (p := ⟨gb262, _, none⟩) (by first | exact Nat.ne_of_lt (Nat.lt_of_lt_of_le (by have := World.block_lt_of_cell? _ _ hw260_0; first | rwa [add_block] at this | exact this) GW262.out) | (rw [add_block]; exact Nat.ne_of_lt (Nat.lt_of_lt_of_le (by have := World.block_lt_of_cell? _ _ hw260_0; first | rwa [add_block] at this | exact this) GW262.out)) | (show (Addr.add _ _).block ≠ _; rw [add_block]; exact Nat.ne_of_lt (Nat.lt_of_lt_of_le (by have := World.block_lt_of_cell? _ _ hw260_0; first | rwa [add_block] at this | exact this) GW262.out)) | (dsimp only; exact Nat.ne_of_lt (Nat.lt_of_lt_of_le (by have := World.block_lt_of_cell? _ _ hw260_0; first | rwa [add_block] at this | exact this) GW262.out))) _).trans (hHeld.1)))))), ((cell_far (p := ⟨gb262, _, none⟩) (by first | exact Nat.ne_of_lt (Nat.lt_of_lt_of_le (by have := World.block_lt_of_cell? _ _ hw261_0; first | rwa [add_block] at this | exact this) GW262.out) | (rw [add_block]; exact Nat.ne_of_lt (Nat.lt_of_lt_of_le (by have := World.block_lt_of_cell? _ _ hw261_0; first | rwa [add_block] at this | exact this) GW262.out)) | (show (Addr.add _ _).block ≠ _; rw [add_block]; exact Nat.ne_of_lt (Nat.lt_of_lt_of_le (by have := World.block_lt_of_cell? _ _ hw261_0; first | rwa [add_block] at this | exact this) GW262.out)) | (dsimp only; exact Nat.ne_of_lt (Nat.lt_of_lt_of_le (by have := World.block_lt_of_cell? _ _ hw261_0; first | rwa [add_block] at this | exact this) GW262.out))) _).trans (((cell_far (p := ⟨gb262, _, none⟩) (by first | exact Nat.ne_of_lt (Nat.lt_of_lt_of_le (by have := World.block_lt_of_cell? _ _ hw261_0; first | rwa [add_block] at this | exact this) GW262.out) | (rw [add_block]; exact Nat.ne_of_lt (Nat.lt_of_lt_of_le (by have := World.block_lt_of_cell? _ _ hw261_0; first | rwa [add_block] at this | exact this) GW262.out)) | (show (Addr.add _ _).block ≠ _; rw [add_block]; exact Nat.ne_of_lt (Nat.lt_of_lt_of_le (by have := World.block_lt_of_cell? _ _ hw261_0; first | rwa [add_block] at this | exact this) GW262.out)) | (dsimp only; exact Nat.ne_of_lt (Nat.lt_of_lt_of_le (by have := World.block_lt_of_cell? _ _ hw261_0; first | rwa [add_block] at this | exact this) GW262.out))) _).trans (((cell_far (p := ⟨gb262, _, none⟩) (by first | exact Nat.ne_of_lt (Nat.lt_of_lt_of_le (by have := World.block_lt_of_cell? _ _ hw261_0; first | rwa [add_block] at this | exact this) GW262.out) | (rw [add_block]; exact Nat.ne_of_lt (Nat.lt_of_lt_of_le (by have := World.block_lt_of_cell? _ _ hw261_0; first | rwa [add_block] at this | exact this) GW262.out)) | (show (Addr.add _ _).block ≠ _; rw [add_block]; exact Nat.ne_of_lt (Nat.lt_of_lt_of_le (by have := World.block_lt_of_cell? _ _ hw261_0; first | rwa [add_block] at this | exact this) GW262.out)) | (dsimp only; exact Nat.ne_of_lt (Nat.lt_of_lt_of_le (by have := World.block_lt_of_cell? _ _ hw261_0; first | rwa [add_block] at this | exact this) GW262.out))) _).trans (hHeld.2))))))⟩ (fun hHeld => ?_)
                          clear hK K
                          refine done_ (done_of HT_.out (by kernel_rfl)) ?_
                          have hcz50_0 : w46.cell? ⟨gb262, 0, none⟩ = some (.int .i64 0) := (blk_cell BK262.out 0).trans rfl
                          have hcz50_1 : w46.cell? ⟨gb262, 1, none⟩ = some (.int .i64 0) := (blk_cell BK262.out 1).trans rfl
                          have hcz50_2 : w46.cell? ⟨gb262, 2, none⟩ = some (.int .i64 0) := (blk_cell BK262.out 2).trans rfl
                          have hfz50_0 := blk_frozen BK262.out 0
                          have hfz50_1 := blk_frozen BK262.out 1
                          have hfz50_2 := blk_frozen BK262.out 2
                          try go_wp2_with (first | ((with_reducible refine gate_callee (f := 16) rfl ?_); refine goesL_ (some 51) rfl rfl Try.func16 (by kernel_rfl) rfl #[.agg #[.int .i64 (wrap64 (rd l0 (ji36))), .int .i64 (wrap64 (rd l0 (ji38))), .int .i64 (wrap64 (rd l0 (ji6)))], .int .i64 a1] rfl (by (try simp only [List.map_toArray, List.map_cons, List.map_nil]); first | done | (simp only [hji36, hji38, hji6]; rfl) | rfl | (simp only [List.length_drop, List.length_take]; rfl)) ?_; (with_reducible refine (quarrelref11_Ok.calls k1 (wrap64 (rd l0 (ji36))) (wrap64 (rd l0 (ji38))) (wrap64 (rd l0 (ji6))) a1 true _ A41.out).mono ?_); rintro e w51 ⟨rfl, hb⟩; refine ⟨_, rfl, ?_⟩; have n0_ := Aside0.mk (Kd.R_below (by (with_reducible repeat (first | apply Kd.R_alloc | apply Kd.R_drewN | apply Kd.R_drew)); exact (Kd.R_mono (Kd.R_far (p := ⟨gb262, 2, none⟩) (Kd.R_far (p := ⟨gb262, 1, none⟩) (Kd.R_far (p := ⟨gb262, 0, none⟩) (Kd.R_mono HO_7.out (fun k_ hk => (⟨hk, hk.2⟩ : _ ∧ k_ ≠ gb262))) (fun _ hk => hk.2) (.int .i64 (wrap64 (rd l0 (ji36))))) (fun _ hk => hk.2) (.int .i64 (wrap64 (rd l0 (ji38))))) (fun _ hk => hk.2) (.int .i64 (wrap64 (rd l0 (ji6))))) (fun _ h_ => h_.1))) hb); have n1_ := Aside0.mk (blk_below (g := gb262) (o := .cells #[.int .i64 (wrap64 (rd l0 (ji36))), .int .i64 (wrap64 (rd l0 (ji38))), .int .i64 (wrap64 (rd l0 (ji6)))] 33 (0, 0)) (by (with_reducible repeat (first | refine blk_drewN ?_ _ | refine blk_drew ?_ | refine blk_alloc ?_ _)); refine blk_put (cs := #[.int .i64 (wrap64 (rd l0 (ji36))), .int .i64 (wrap64 (rd l0 (ji38))), .int .i64 0]) ?_ 2 _ rfl; (with_reducible repeat (first | refine blk_drewN ?_ _ | refine blk_drew ?_ | refine blk_alloc ?_ _)); refine blk_put (cs := #[.int .i64 (wrap64 (rd l0 (ji36))), .int .i64 0, .int .i64 0]) ?_ 1 _ rfl; (with_reducible repeat (first | refine blk_drewN ?_ _ | refine blk_drew ?_ | refine blk_alloc ?_ _)); refine blk_put (cs := #[.int .i64 0, .int .i64 0, .int .i64 0]) ?_ 0 _ rfl; (with_reducible repeat (first | refine blk_drewN ?_ _ | refine blk_drew ?_ | refine blk_alloc ?_ _)); exact BK262.out) hb); have n2_ := Aside0.mk (below_step (by repeat (first | (with_reducible first | exact HB.out | apply below_alloc | apply pw_below_drewN | apply below_drew1 | refine below_set ?_ GE262.out) | exact HB.out)) hb); clear HO_7; clear BK262; clear HB; have HO_7 := n0_; have BK262 := n1_; have HB := n2_; clear n0_ n1_ n2_; (try clear hb); (try clear hb2); (try clear hk); (try clear hi); have hcz52_0 : w51.cell? ⟨gb262, 0, none⟩ = some (.int .i64 (wrap64 (rd l0 (ji36)))) := (blk_cell BK262.out 0).trans rfl; have hcz52_1 : w51.cell? ⟨gb262, 1, none⟩ = some (.int .i64 (wrap64 (rd l0 (ji38)))) := (blk_cell BK262.out 1).trans rfl; have hcz52_2 : w51.cell? ⟨gb262, 2, none⟩ = some (.int .i64 (wrap64 (rd l0 (ji6)))) := (blk_cell BK262.out 2).trans rfl; have hfz52_0 := blk_frozen BK262.out 0; have hfz52_1 := blk_frozen BK262.out 1; have hfz52_2 := blk_frozen BK262.out 2) | ((with_reducible refine gate_builtin (b := .append) (xs := #[.tmp 54, .tmp 56]) rfl ?_); at_builtin; refine Kd.R_append k33 (w0 := w) w.heap.size rfl (.tmp 54) (.tmp 56) 22 33 (.agg #[(.int .i64 0), (.int .i64 0), (.int .i64 0)]) 24 rfl Try.underlying22 info33 rfl (by decide) (by omega) (.slice Ao44 x7_1.length co44) x7_1 (⟨wrap64 (rd l0 (ji36)), wrap64 (rd l0 (ji38)), wrap64 (rd l0 (ji6))⟩ : S33) [.int .i64 (wrap64 (rd l0 (ji36))), .int .i64 (wrap64 (rd l0 (ji38))), .int .i64 (wrap64 (rd l0 (ji6)))] (fun k_ => k_ ≠ gb262) (fun _ => False) rfl rfl ?aP (fun _ hk => hk.elim) ?aF ?aO ?aB ?aS ?aL ?_; (case aP => exact k33_mkM _ _ _ (⟨wrap64 (rd l0 (ji36)), wrap64 (rd l0 (ji38)), wrap64 (rd l0 (ji6))⟩ : S33)); (case aB => exact (by repeat (first | (with_reducible first | exact HB.out | apply below_alloc | apply pw_below_drewN | apply below_drew1 | refine below_set ?_ GE262.out) | exact HB.out))); (case aF => exact (fun k_ hk => Kd.freshB (g := gb262) (o := .cells #[.int .i64 (wrap64 (rd l0 (ji36))), .int .i64 (wrap64 (rd l0 (ji38))), .int .i64 (wrap64 (rd l0 (ji6)))] 33 (0, 0)) (by (with_reducible repeat (first | refine blk_drewN ?_ _ | refine blk_drew ?_ | refine blk_alloc ?_ _)); exact BK262.out) k_ hk)); (case aO => exact (by (with_reducible repeat (first | apply Kd.R_alloc | apply Kd.R_drewN | apply Kd.R_drew)); exact Kd.R_mono HO_7.out (fun _ hk => hk.2))); (case aS => exact (below_size (by repeat (first | (with_reducible first | exact HB.out | apply below_alloc | apply pw_below_drewN | apply below_drew1 | refine below_set ?_ GE262.out) | exact HB.out)))); (case aL => have := LMc43.out; omega); intro v265 w53 ho hb hg hat; rw [← Ny264.out] at ho; have n0_ := Aside0.mk (blk_grown (g := gb262) (o := .cells #[.int .i64 (wrap64 (rd l0 (ji36))), .int .i64 (wrap64 (rd l0 (ji38))), .int .i64 (wrap64 (rd l0 (ji6)))] 33 (0, 0)) (by (with_reducible repeat (first | refine blk_drewN ?_ _ | refine blk_drew ?_ | refine blk_alloc ?_ _)); exact BK262.out) hg (Kd.R_away HO_7.out (fun _ hk => hk.2))); have n1_ := Aside0.mk (hb); have n2_ := Aside0.mk (ho); clear BK262; clear HB; clear HO_7; have BK262 := n0_; have HB := n1_; have HO266 := n2_; clear n0_ n1_ n2_; clear ho hb hg hat))
                          go_roundg k1
                          case measure => have := HK1.out; omega
                          case rel => exact ⟨(y264), H', ⟨by have := HK1.out; omega⟩, ⟨by (with_reducible repeat (first | apply Kd.R_alloc | apply Kd.R_drewN | apply Kd.R_drew)); exact Kd.R_mono HO266.out (fun _ hk => trivial)⟩, ⟨by repeat (first | (with_reducible first | exact HB.out | apply below_alloc | apply pw_below_drewN | apply below_drew1 | refine below_set ?_ GE262.out) | exact HB.out)⟩⟩
                        · rw [if_neg c43] at H
                          exact absurd H (by simp)
                      · replace c42 := Bool.eq_false_iff.mpr c42
                        subst c42
                        have H1 : (some (([] : List (S33)), ji36, 3)) = some (r1, r2, r3) := by rw [if_neg (show ¬ (false = true) by decide)] at H; exact H
                        clear H
                        have H := H1
                        clear H1
                        simp only [Option.some.injEq, Prod.mk.injEq] at H
                        obtain ⟨rfl, rfl, rfl⟩ := H
                        obtain ⟨Ao54, co54, eo54⟩ := Kd.R_slice HO_7.out
                        subst eo54
                        have p252 : 0 ≤ ((ji6) : Int) := of_decide_eq_true (by first | (with_reducible assumption) | assumption)
                        have q252 : (ji6) < (l0.length : Int) := of_decide_eq_true (by first | (with_reducible assumption) | assumption)
                        obtain ⟨ad252, e252, hx252_0⟩ := Kd.at_int HR0.out (ji6) p252 q252
                        cases e252
                        replace hx252_0 := (HB.out.cell (World.block_lt_of_cell? w _ hx252_0)).trans hx252_0
                        replace p252 := eq_true p252
                        replace q252 := eq_true q252
                        try go_wp2
                        have n0_ := Aside0.mk (Kd.R_drew HO_7.out)
                        have n1_ := Aside0.mk (below_drew1 HB.out)
                        clear HO_7
                        clear HB
                        have HO_7 := n0_
                        have HB := n1_
                        clear n0_ n1_
                        have p260 : 0 ≤ ((ji36) : Int) := of_decide_eq_true (by first | (with_reducible assumption) | assumption)
                        have q260 : (ji36) < (l0.length : Int) := of_decide_eq_true (by first | (with_reducible assumption) | assumption)
                        obtain ⟨ad260, e260, hx260_0⟩ := Kd.at_int HR0.out (ji36) p260 q260
                        have hw260_0 := hx260_0
                        obtain rfl : ad252 = ad260 := (by injection e260)
                        replace hx260_0 := (HB.out.cell (World.block_lt_of_cell? w _ hx260_0)).trans hx260_0
                        replace p260 := eq_true p260
                        replace q260 := eq_true q260
                        have p261 : 0 ≤ ((ji38) : Int) := of_decide_eq_true (by first | (with_reducible assumption) | assumption)
                        have q261 : (ji38) < (l0.length : Int) := of_decide_eq_true (by first | (with_reducible assumption) | assumption)
                        obtain ⟨ad261, e261, hx261_0⟩ := Kd.at_int HR0.out (ji38) p261 q261
                        have hw261_0 := hx261_0
                        obtain rfl : ad252 = ad261 := (by injection e261)
                        replace hx261_0 := (HB.out.cell (World.block_lt_of_cell? w _ hx261_0)).trans hx261_0
                        replace p261 := eq_true p261
                        replace q261 := eq_true q261
                        refine start_ (n := 15) (S := fun w' => w'.cell? (ad252.add ((ji36)).toNat) = some (.int .u8 (rd l0 (ji36))) ∧ w'.cell? (ad252.add ((ji38)).toNat) = some (.int .u8 (rd l0 (ji38)))) (ds := []) #[false, false, false, false, false, false, false, false, false, false, false, false, false, false, false] (by kernel_rfl) rfl rfl ⟨((HB.out.cell (World.block_lt_of_cell? w _ hw260_0)).trans hw260_0), ((HB.out.cell (World.block_lt_of_cell? w _ hw261_0)).trans hw261_0)⟩ (fun hHeld => ?_); refine with_tabW quarrelref11_Get.tab9 quarrelref11_Get.bits9 (fun HT_ HW_ => ?_)
                        generalize wr.drew = w55 at HO_7 HB hx260_0 hx261_0 hHeld ⊢
                        refine pure_ (i := 0) (N := some 36) (v := ?_) (a' := ?_) #[true, false, false, false, false, false, false, false, false, false, false, false, false, false, false] rfl rfl (any_of HT_.out (by kernel_rfl)) (fun _ _ _ h => h) (Or.inl ⟨by rfl, ?_⟩) ?_ ?_
                        rotate_left
                        · intro w'
                          go_simp
                          with_reducible rfl
                        rotate_left
                        · simp only [Act.put, List.setIfInBounds_toArray, List.set_cons_zero, List.set_cons_succ, i64_w, i32_w]
                          rfl
                        refine pure_ (i := 1) (N := some 37) (v := ?_) (a' := ?_) #[true, true, false, false, false, false, false, false, false, false, false, false, false, false, false] rfl rfl (any_of HT_.out (by kernel_rfl)) (fun _ _ _ h => h) (Or.inl ⟨by rfl, ?_⟩) ?_ ?_
                        rotate_left
                        · intro w'
                          go_simp
                          with_reducible rfl
                        rotate_left
                        · simp only [Act.put, List.setIfInBounds_toArray, List.set_cons_zero, List.set_cons_succ, i64_w, i32_w]
                          rfl
                        refine pure_ (i := 2) (N := some 38) (v := ?_) (a' := ?_) #[true, true, true, false, false, false, false, false, false, false, false, false, false, false, false] rfl rfl (any_of HT_.out (by kernel_rfl)) (fun _ _ _ h => h) (Or.inl ⟨by rfl, ?_⟩) ?_ ?_
                        rotate_left
                        · intro w'
                          go_simp
                          with_reducible rfl
                        rotate_left
                        · simp only [Act.put, List.setIfInBounds_toArray, List.set_cons_zero, List.set_cons_succ, i64_w, i32_w]
                          rfl
                        refine pure_ (i := 5) (N := some 41) (v := ?_) (a' := ?_) #[true, true, true, false, false, true, false, false, false, false, false, false, false, false, false] rfl rfl (any_of HT_.out (by kernel_rfl)) (fun _ _ _ h => h) (Or.inl ⟨by rfl, ?_⟩) ?_ ?_
                        rotate_left
                        · intro w'
                          go_simp
                          with_reducible rfl
                        rotate_left
                        · simp only [Act.put, List.setIfInBounds_toArray, List.set_cons_zero, List.set_cons_succ, i64_w, i32_w]
                          rfl
                        refine pure_ (i := 6) (N := some 42) (v := ?_) (a' := ?_) #[true, true, true, false, false, true, true, false, false, false, false, false, false, false, false] rfl rfl (any_of HT_.out (by kernel_rfl)) (fun _ _ _ h => h) (Or.inl ⟨by rfl, ?_⟩) ?_ ?_
                        rotate_left
                        · intro w'
                          go_simp
                          with_reducible rfl
                        rotate_left
                        · simp only [Act.put, List.setIfInBounds_toArray, List.set_cons_zero, List.set_cons_succ, i64_w, i32_w]
                          rfl
                        refine pure_ (i := 7) (N := some 43) (v := ?_) (a' := ?_) #[true, true, true, false, false, true, true, true, false, false, false, false, false, false, false] rfl rfl (any_of HT_.out (by kernel_rfl)) (fun _ _ _ h => h) (Or.inl ⟨by rfl, ?_⟩) ?_ ?_
                        rotate_left
                        · intro w'
                          go_simp
                          with_reducible rfl
                        rotate_left
                        · simp only [Act.put, List.setIfInBounds_toArray, List.set_cons_zero, List.set_cons_succ, i64_w, i32_w]
                          rfl
                        refine pure_ (i := 8) (N := some 44) (v := ?_) (a' := ?_) #[true, true, true, false, false, true, true, true, true, false, false, false, false, false, false] rfl rfl (any_of HT_.out (by kernel_rfl)) (fun _ _ _ h => h) (Or.inl ⟨by rfl, ?_⟩) ?_ ?_
                        rotate_left
                        · intro w'
                          go_simp
                          with_reducible rfl
                        rotate_left
                        · simp only [Act.put, List.setIfInBounds_toArray, List.set_cons_zero, List.set_cons_succ, i64_w, i32_w]
                          rfl
                        refine pure_ (i := 11) (N := some 47) (v := ?_) (a' := ?_) #[true, true, true, false, false, true, true, true, true, false, false, true, false, false, false] rfl rfl (any_of HT_.out (by kernel_rfl)) (fun _ _ _ h => h) (Or.inl ⟨by rfl, ?_⟩) ?_ ?_
                        rotate_left
                        · intro w'
                          go_simp
                          with_reducible rfl
                        rotate_left
                        · simp only [Act.put, List.setIfInBounds_toArray, List.set_cons_zero, List.set_cons_succ, i64_w, i32_w]
                          rfl
                        refine take_ (i := 3) (N := some 39) (v := ?_) (a' := ?_) #[true, true, true, true, false, true, true, true, true, false, false, true, false, false, false] rfl rfl (take_ofW HT_.out HW_.out (by kernel_rfl)) (fun _ _ _ h => h) (Or.inl ⟨by rfl, ?_⟩) hHeld ?_ ?_
                        rotate_left
                        · rintro w' ⟨s0, s1⟩
                          go_simp
                          with_reducible rfl
                        rotate_left
                        · simp only [Act.put, List.setIfInBounds_toArray, List.set_cons_zero, List.set_cons_succ, i64_w, i32_w]
                          rfl
                        refine pure_ (i := 4) (N := some 40) (v := ?_) (a' := ?_) #[true, true, true, true, true, true, true, true, true, false, false, true, false, false, false] rfl rfl (any_of HT_.out (by kernel_rfl)) (fun _ _ _ h => h) (Or.inl ⟨by rfl, ?_⟩) ?_ ?_
                        rotate_left
                        · intro w'
                          go_simp
                          with_reducible rfl
                        rotate_left
                        · simp only [Act.put, List.setIfInBounds_toArray, List.set_cons_zero, List.set_cons_succ, i64_w, i32_w]
                          rfl
                        refine take_ (i := 9) (N := some 45) (v := ?_) (a' := ?_) #[true, true, true, true, true, true, true, true, true, true, false, true, false, false, false] rfl rfl (take_ofW HT_.out HW_.out (by kernel_rfl)) (fun _ _ _ h => h) (Or.inl ⟨by rfl, ?_⟩) hHeld ?_ ?_
                        rotate_left
                        · rintro w' ⟨s0, s1⟩
                          go_simp
                          with_reducible rfl
                        rotate_left
                        · simp only [Act.put, List.setIfInBounds_toArray, List.set_cons_zero, List.set_cons_succ, i64_w, i32_w]
                          rfl
                        refine pure_ (i := 10) (N := some 46) (v := ?_) (a' := ?_) #[true, true, true, true, true, true, true, true, true, true, true, true, false, false, false] rfl rfl (any_of HT_.out (by kernel_rfl)) (fun _ _ _ h => h) (Or.inl ⟨by rfl, ?_⟩) ?_ ?_
                        rotate_left
                        · intro w'
                          go_simp
                          with_reducible rfl
                        rotate_left
                        · simp only [Act.put, List.setIfInBounds_toArray, List.set_cons_zero, List.set_cons_succ, i64_w, i32_w]
                          rfl
                        refine pure_ (i := 12) (N := some 48) (v := ?_) (a' := ?_) #[true, true, true, true, true, true, true, true, true, true, true, true, true, false, false] rfl rfl (any_of HT_.out (by kernel_rfl)) (fun _ _ _ h => h) (Or.inl ⟨by rfl, ?_⟩) ?_ ?_
                        rotate_left
                        · intro w'
                          go_simp
                          with_reducible rfl
                        rotate_left
                        · simp only [Act.put, List.setIfInBounds_toArray, List.set_cons_zero, List.set_cons_succ, i64_w, i32_w]
                          rfl
                        refine one_ (i := 13) (N := some 10) #[true, true, true, true, true, true, true, true, true, true, true, true, true, true, false] rfl rfl (one_of HT_.out (by kernel_rfl)) (by decide) (fun K hK => ?_)
                        refine box_step ?hg (N := 10) ?hd (cs := #[.int .i64 0, .int .i64 0, .int .i64 0]) (t := 33) ?hr ?_; (case hd => rfl); (case hg => rfl); (case hr => first | (go_simp; done) | (go_simp; rfl))
                        intro gb262 hg w56 hbox hb
                        have n0_ := Aside0.mk (Kd.R_below (Kd.R_elderB (by (with_reducible repeat (first | apply Kd.R_alloc | apply Kd.R_drewN | apply Kd.R_drew)); exact HO_7.out) gb262 (Nat.le_of_eq hg.symm)) hb)
                        have n1_ := Aside0.mk (below_step (by repeat (first | (with_reducible first | exact HB.out | apply below_alloc | apply pw_below_drewN | apply below_drew1) | exact HB.out)) hb)
                        have n2_ := Aside0.mk (hbox)
                        have n3_ := Aside0.mk ((by rw [hg]; exact (below_size (by repeat (first | (with_reducible first | exact HB.out | apply below_alloc | apply pw_below_drewN | apply below_drew1) | exact HB.out))) : w.heap.size ≤ gb262))
                        have n4_ := Aside0.mk ((by rw [hg]; exact (below_size (by repeat (first | (with_reducible first | exact HB.out | apply below_alloc | apply pw_below_drewN | apply below_drew1) | exact HB.out))) : w.heap.size ≤ gb262))
                        clear HO_7
                        clear HB
                        have HO_7 := n0_
                        have HB := n1_
                        have BK262 := n2_
                        have GW262 := n3_
                        have GE262 := n4_
                        clear n0_ n1_ n2_ n3_ n4_
                        clear hb hbox hg
                        refine hK.out _ _ ⟨((HB.out.cell (World.block_lt_of_cell? w _ hw260_0)).trans hw260_0), ((HB.out.cell (World.block_lt_of_cell? w _ hw261_0)).trans hw261_0)⟩ (fun hHeld => ?_)
                        clear hK K
                        refine norm_ (a' := ?_) ?_ ?_
                        rotate_left
                        · show Act.put _ (some 10) _ = _
                          simp only [Act.put, List.setIfInBounds_toArray, List.set_cons_zero, List.set_cons_succ, i64_w, i32_w]
                          rfl
                        refine one_ (i := 14) (N := none) #[true, true, true, true, true, true, true, true, true, true, true, true, true, true, true] rfl rfl (one_of HT_.out (by kernel_rfl)) (by decide) (fun K hK => ?_)
                        have hs57 : w56.cell? ⟨gb262, 0, none⟩ = some (.int .i64 0) := (blk_cell BK262.out 0).trans rfl
                        have hfs57 := blk_frozen BK262.out 0
                        have hs58 : w56.cell? ⟨gb262, 1, none⟩ = some (.int .i64 0) := (blk_cell BK262.out 1).trans rfl
                        have hfs58 := blk_frozen BK262.out 1
                        have hs59 : w56.cell? ⟨gb262, 2, none⟩ = some (.int .i64 0) := (blk_cell BK262.out 2).trans rfl
                        have hfs59 := blk_frozen BK262.out 2
                        refine skip_ (w1 := ?_) (by rfl) rfl ?_ ?_
                        rotate_left
                        · go_simp
                          rfl
                        refine hK.out _ _ ⟨((cell_far (p := ⟨gb262, _, none⟩) (by first | exact Nat.ne_of_lt (Nat.lt_of_lt_of_le (by have := World.block_lt_of_cell? _ _ hw260_0; first | rwa [add_block] at this | exact this) GW262.out) | (rw [add_block]; exact Nat.ne_of_lt (Nat.lt_of_lt_of_le (by have := World.block_lt_of_cell? _ _ hw260_0; first | rwa [add_block] at this | exact this) GW262.out)) | (show (Addr.add _ _).block ≠ _; rw [add_block]; exact Nat.ne_of_lt (Nat.lt_of_lt_of_le (by have := World.block_lt_of_cell? _ _ hw260_0; first | rwa [add_block] at this | exact this) GW262.out)) | (dsimp only; exact Nat.ne_of_lt (Nat.lt_of_lt_of_le (by have := World.block_lt_of_cell? _ _ hw260_0; first | rwa [add_block] at this | exact this) GW262.out))) _).trans (((cell_far (p := ⟨gb262, _, none⟩) (by first | exact Nat.ne_of_lt (Nat.lt_of_lt_of_le (by have := World.block_lt_of_cell? _ _ hw260_0; first | rwa [add_block] at this | exact this) GW262.out) | (rw [add_block]; exact Nat.ne_of_lt (Nat.lt_of_lt_of_le (by have := World.block_lt_of_cell? _ _ hw260_0; first | rwa [add_block] at this | exact this) GW262.out)) | (show (Addr.add _ _).block ≠ _; rw [add_block]; exact Nat.ne_of_lt (Nat.lt_of_lt_of_le (by have := World.block_lt_of_cell? _ _ hw260_0; first | rwa [add_block] at this | exact this) GW262.out)) | (dsimp only; exact Nat.ne_of_lt (Nat.lt_of_lt_of_le (by have := World.block_lt_of_cell? _ _ hw260_0; first | rwa [add_block] at this | exact this) GW262.out))) _).trans (((cell_far (p := ⟨gb262, _, none⟩) (by first | exact Nat.ne_of_lt (Nat.lt_of_lt_of_le (by have := World.block_lt_of_cell? _ _ hw260_0; first | rwa [add_block] at this | exact this) GW262.out) | (rw [add_block]; exact Nat.ne_of_lt (Nat.lt_of_lt_of_le (by have := World.block_lt_of_cell? _ _ hw260_0; first | rwa [add_block] at this | exact this) GW262.out)) | (show (Addr.add _ _).block ≠ _; rw [add_block]; exact Nat.ne_of_lt (Nat.lt_of_lt_of_le (by have := World.block_lt_of_cell? _ _ hw260_0; first | rwa [add_block] at this | exact this) GW262.out)) | (dsimp only; exact Nat.ne_of_lt (Nat.lt_of_lt_of_le (by have := World.block_lt_of_cell? _ _ hw260_0; first | rwa [add_block] at this | exact this) GW262.out))) _).trans (hHeld.1)))))), ((cell_far (p := ⟨gb262, _, none⟩) (by first | exact Nat.ne_of_lt (Nat.lt_of_lt_of_le (by have := World.block_lt_of_cell? _ _ hw261_0; first | rwa [add_block] at this | exact this) GW262.out) | (rw [add_block]; exact Nat.ne_of_lt (Nat.lt_of_lt_of_le (by have := World.block_lt_of_cell? _ _ hw261_0; first | rwa [add_block] at this | exact this) GW262.out)) | (show (Addr.add _ _).block ≠ _; rw [add_block]; exact Nat.ne_of_lt (Nat.lt_of_lt_of_le (by have := World.block_lt_of_cell? _ _ hw261_0; first | rwa [add_block] at this | exact this) GW262.out)) | (dsimp only; exact Nat.ne_of_lt (Nat.lt_of_lt_of_le (by have := World.block_lt_of_cell? _ _ hw261_0; first | rwa [add_block] at this | exact this) GW262.out))) _).trans (((cell_far (p := ⟨gb262, _, none⟩) (by first | exact Nat.ne_of_lt (Nat.lt_of_lt_of_le (by have := World.block_lt_of_cell? _ _ hw261_0; first | rwa [add_block] at this | exact this) GW262.out) | (rw [add_block]; exact Nat.ne_of_lt (Nat.lt_of_lt_of_le (by have := World.block_lt_of_cell? _ _ hw261_0; first | rwa [add_block] at this | exact this) GW262.out)) | (show (Addr.add _ _).block ≠ _; rw [add_block]; exact Nat.ne_of_lt (Nat.lt_of_lt_of_le (by have := World.block_lt_of_cell? _ _ hw261_0; first | rwa [add_block] at this | exact this) GW262.out)) | (dsimp only; exact Nat.ne_of_lt (Nat.lt_of_lt_of_le (by have := World.block_lt_of_cell? _ _ hw261_0; first | rwa [add_block] at this | exact this) GW262.out))) _).trans (((cell_far (p := ⟨gb262, _, none⟩) (by first | exact Nat.ne_of_lt (Nat.lt_of_lt_of_le (by have := World.block_lt_of_cell? _ _ hw261_0; first | rwa [add_block] at this | exact this) GW262.out) | (rw [add_block]; exact Nat.ne_of_lt (Nat.lt_of_lt_of_le (by have := World.block_lt_of_cell? _ _ hw261_0; first | rwa [add_block] at this | exact this) GW262.out)) | (show (Addr.add _ _).block ≠ _; rw [add_block]; exact Nat.ne_of_lt (Nat.lt_of_lt_of_le (by have := World.block_lt_of_cell? _ _ hw261_0; first | rwa [add_block] at this | exact this) GW262.out)) | (dsimp only; exact Nat.ne_of_lt (Nat.lt_of_lt_of_le (by have := World.block_lt_of_cell? _ _ hw261_0; first | rwa [add_block] at this | exact this) GW262.out))) _).trans (hHeld.2))))))⟩ (fun hHeld => ?_)
                        clear hK K
                        refine done_ (done_of HT_.out (by kernel_rfl)) ?_
                        have hcz60_0 : w56.cell? ⟨gb262, 0, none⟩ = some (.int .i64 0) := (blk_cell BK262.out 0).trans rfl
                        have hcz60_1 : w56.cell? ⟨gb262, 1, none⟩ = some (.int .i64 0) := (blk_cell BK262.out 1).trans rfl
                        have hcz60_2 : w56.cell? ⟨gb262, 2, none⟩ = some (.int .i64 0) := (blk_cell BK262.out 2).trans rfl
                        have hfz60_0 := blk_frozen BK262.out 0
                        have hfz60_1 := blk_frozen BK262.out 1
                        have hfz60_2 := blk_frozen BK262.out 2
                        try go_wp2_with (first | ((with_reducible refine gate_callee (f := 16) rfl ?_); refine goesL_ (some 51) rfl rfl Try.func16 (by kernel_rfl) rfl #[.agg #[.int .i64 (wrap64 (rd l0 (ji36))), .int .i64 (wrap64 (rd l0 (ji38))), .int .i64 (wrap64 (rd l0 (ji6)))], .int .i64 a1] rfl (by (try simp only [List.map_toArray, List.map_cons, List.map_nil]); first | done | (simp only [hji36, hji38, hji6]; rfl) | rfl | (simp only [List.length_drop, List.length_take]; rfl)) ?_; (with_reducible refine (quarrelref11_Ok.calls k1 (wrap64 (rd l0 (ji36))) (wrap64 (rd l0 (ji38))) (wrap64 (rd l0 (ji6))) a1 false _ A41.out).mono ?_); rintro e w61 ⟨rfl, hb⟩; refine ⟨_, rfl, ?_⟩; have n0_ := Aside0.mk (Kd.R_below (by (with_reducible repeat (first | apply Kd.R_alloc | apply Kd.R_drewN | apply Kd.R_drew)); exact (Kd.R_mono (Kd.R_far (p := ⟨gb262, 2, none⟩) (Kd.R_far (p := ⟨gb262, 1, none⟩) (Kd.R_far (p := ⟨gb262, 0, none⟩) (Kd.R_mono HO_7.out (fun k_ hk => (⟨hk, hk.2⟩ : _ ∧ k_ ≠ gb262))) (fun _ hk => hk.2) (.int .i64 (wrap64 (rd l0 (ji36))))) (fun _ hk => hk.2) (.int .i64 (wrap64 (rd l0 (ji38))))) (fun _ hk => hk.2) (.int .i64 (wrap64 (rd l0 (ji6))))) (fun _ h_ => h_.1))) hb); have n1_ := Aside0.mk (blk_below (g := gb262) (o := .cells #[.int .i64 (wrap64 (rd l0 (ji36))), .int .i64 (wrap64 (rd l0 (ji38))), .int .i64 (wrap64 (rd l0 (ji6)))] 33 (0, 0)) (by (with_reducible repeat (first | refine blk_drewN ?_ _ | refine blk_drew ?_ | refine blk_alloc ?_ _)); refine blk_put (cs := #[.int .i64 (wrap64 (rd l0 (ji36))), .int .i64 (wrap64 (rd l0 (ji38))), .int .i64 0]) ?_ 2 _ rfl; (with_reducible repeat (first | refine blk_drewN ?_ _ | refine blk_drew ?_ | refine blk_alloc ?_ _)); refine blk_put (cs := #[.int .i64 (wrap64 (rd l0 (ji36))), .int .i64 0, .int .i64 0]) ?_ 1 _ rfl; (with_reducible repeat (first | refine blk_drewN ?_ _ | refine blk_drew ?_ | refine blk_alloc ?_ _)); refine blk_put (cs := #[.int .i64 0, .int .i64 0, .int .i64 0]) ?_ 0 _ rfl; (with_reducible repeat (first | refine blk_drewN ?_ _ | refine blk_drew ?_ | refine blk_alloc ?_ _)); exact BK262.out) hb); have n2_ := Aside0.mk (below_step (by repeat (first | (with_reducible first | exact HB.out | apply below_alloc | apply pw_below_drewN | apply below_drew1 | refine below_set ?_ GE262.out) | exact HB.out)) hb); clear HO_7; clear BK262; clear HB; have HO_7 := n0_; have BK262 := n1_; have HB := n2_; clear n0_ n1_ n2_; (try clear hb); (try clear hb2); (try clear hk); (try clear hi)))
                        go_ret3
                        exact ⟨_, by first | rfl | (simp [errW_none, errW_some] <;> rfl) | (simp only [← hji6, ← hji36, ← hji38]; first | rfl | (simp [errW_none, errW_some] <;> rfl)) | (simp [*, errW_none, errW_some] <;> rfl), by first | exact Kd.R_nil _ _ _ _ _ | exact Kd.N_nil _ _ _ _ _ | exact Kd.V_nil _ _ _ _ _ | exact Kd.Q_nil _ _ _ _ _ | exact Kd.S_nil _ _ _ _ _, by repeat (first | (with_reducible first | exact HB.out | apply below_alloc | apply pw_below_drewN | apply below_drew1 | refine below_set ?_ GE262.out) | exact HB.out)⟩
                    · rw [if_neg c40] at H
                      exact absurd H (by simp)
                  · rw [if_neg c39] at H
                    exact absurd H (by simp)
                · rw [if_neg c37] at H
                  exact absurd H (by simp)
            · rw [if_neg c8] at H
              exact absurd H (by simp)
          · rw [if_neg c7] at H
            exact absurd H (by simp)
      · rw [if_neg c3] at H
        have c3b0 : decide ((wrap64 ((x7_1.length : Int) * 3)) < (l0.length : Int)) = false := decide_eq_false c3
        clear c3
        simp only [Option.some.injEq, Prod.mk.injEq] at H
        obtain ⟨rfl, rfl, rfl⟩ := H
        obtain ⟨Ao62, co62, eo62⟩ := Kd.R_slice HO_7.out
        subst eo62
        go_wp2
        go_ret3
        exact ⟨_, by first | rfl | (simp [errW_none, errW_some] <;> rfl) | (simp [*, errW_none, errW_some] <;> rfl), by (with_reducible repeat (first | apply Kd.R_alloc | apply Kd.R_drewN | apply Kd.R_drew)); exact HO_7.out, by repeat (first | (with_reducible first | exact HB.out | apply below_alloc | apply pw_below_drewN | apply below_drew1) | exact HB.out)⟩

end Go.Proofs.Ytgefdpmhdidnnaa.L
