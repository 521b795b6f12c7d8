/- Part 5 of the proof of scriptSpoilt_holds. Conditions stand in each theorem; nothing is assumed. Gathered by a program of this session out of its texts and the kit's words. -/
import Derived.Test.YthfkgnkojhocbaaZS4
import Derived.KernelRfl
import Derived.Deep.Slices
import Derived.Deep.Fields
import Derived.ChangeSame
import Derived.ChangeArms
import Derived.Test.YthfkgnkojhocbaaRows
import Derived.WalkKit
import Derived.ProofKit
import Derived.OpenShut
import Derived.ShutString
import Derived.ChangeOld
import Derived.Below
import Derived.SizedLaws
section
namespace Go.Proofs.Ythfkgnkojhocbaa.S
open Go.RowKit Go.Proofs.YthfkgnkojhocbaaW.PrintWords Go.Proofs.YthfkgnkojhocbaaW.PrintLast Go.Proofs.YthfkgnkojhocbaaW.PrintMore
attribute [local go_sem] max2_int min2_int max_two min_two max_three min_three max_four min_four
set_option linter.unusedVariables false
set_option linter.unusedSimpArgs false
mutual
def quarrellaw20_ScriptSpoilt.j0 : Nat → Int → List Int → Bool → Int → Int → Int → Int → Int → Int → List Int → List Int → List (List (List (S80))) → List Int → Option (Bool)
  | 0, _, _, _, _, _, _, _, _, _, _, _, _, _ => none
  | k + 1, x1, x2, x22, x633000, x633001, x633002, x633003, x633004, x633005, x633006, x633007, x633008, x633009 => if x22 = true then (some true) else ((quarrellaw20_Of.f x633000 x633001 x633002 x633003 x633004 x633005 x633006 x633007 x633008 x633009).bind fun bt635 => ((script_Put.f k bt635.1 bt635.2.1 bt635.2.2.1 bt635.2.2.2.1 bt635.2.2.2.2.1 bt635.2.2.2.2.2.1 bt635.2.2.2.2.2.2.1 bt635.2.2.2.2.2.2.2.1 bt635.2.2.2.2.2.2.2.2.1 bt635.2.2.2.2.2.2.2.2.2).bind fun bt653 => (if bt653.2 = 0 then (quarrellaw20_ScriptSpoilt.j1 k x1 x2 bt653.1 bt653.2 (decide ((bt653.1.length : Int) < 7)) x633000 x633001 x633002 x633003 x633004 x633005 x633006 x633007 x633008 x633009) else (quarrellaw20_ScriptSpoilt.j1 k x1 x2 bt653.1 bt653.2 true x633000 x633001 x633002 x633003 x633004 x633005 x633006 x633007 x633008 x633009))))
def quarrellaw20_ScriptSpoilt.j1 : Nat → Int → List Int → List Int → Int → Bool → Int → Int → Int → Int → Int → Int → List Int → List Int → List (List (List (S80))) → List Int → Option (Bool)
  | 0, _, _, _, _, _, _, _, _, _, _, _, _, _, _, _ => none
  | k + 1, x1, x2, x7, x8, x35, x633000, x633001, x633002, x633003, x633004, x633005, x633006, x633007, x633008, x633009 => if x35 = true then (some (x8 == 1)) else (if x7.length + x2.length < 140737488355328 then ((some (x7 ++ x2 : List Int)).bind fun y657 => (if (Int.tmod x1 6) = 0 then (if 0 < (y657.length : Int) then (quarrellaw20_ScriptSpoilt.j2 k (y657.set (0 : Int).toNat 9) 2 0) else (none)) else (if (Int.tmod x1 6) = 1 then (if 1 < (y657.length : Int) then (quarrellaw20_ScriptSpoilt.j2 k (y657.set (1 : Int).toNat 0) 2 0) else (none)) else (if (Int.tmod x1 6) = 2 then (if 2 < (y657.length : Int) then (if 3 < (y657.length : Int) then (quarrellaw20_ScriptSpoilt.j2 k ((y657.set (2 : Int).toNat 16).set (3 : Int).toNat 1) 2 0) else (none)) else (none)) else (if (Int.tmod x1 6) = 3 then (if 5 < (y657.length : Int) then (quarrellaw20_ScriptSpoilt.j2 k (y657.set (5 : Int).toNat 5) 2 0) else (none)) else (if (Int.tmod x1 6) = 4 then (if 6 < (y657.length : Int) then (quarrellaw20_ScriptSpoilt.j2 k (y657.set (6 : Int).toNat 65) 2 0) else (none)) else (if (Int.tmod x1 6) = 5 then (if 2 < (y657.length : Int) then (if 3 < (y657.length : Int) then (quarrellaw20_ScriptSpoilt.j2 k ((y657.set (2 : Int).toNat 0).set (3 : Int).toNat ((wrap64 ((wrap64 (2 * x633000)) - 1)) % 256)) 4 2) else (none)) else (none)) else (quarrellaw20_ScriptSpoilt.j2 k y657 2 0)))))))) else (none))
def quarrellaw20_ScriptSpoilt.j2 : Nat → List Int → Int → Int → Option (Bool)
  | 0, _, _, _ => none
  | k + 1, x7, x9, x10 => (script_Get.f k x7).bind fun bt668 => (if bt668.2.2.2.2.2.2.2.2.2.2.1 = x10 then (if bt668.2.2.2.2.2.2.2.2.2.2.2 = x9 then (some ((wrap64 ((bt668.2.2.2.2.2.2.2.2.1.length : Int) + (bt668.2.2.2.2.2.2.1.length : Int))) == 0)) else (some false)) else (some false))
end
def quarrellaw20_ScriptSpoilt.f (k : Nat) (a0_0 : Int) (a0_1 : Int) (a0_2 : Int) (a0_3 : Int) (a0_4 : Int) (a0_5 : Int) (l0_6 : List Int) (l0_7 : List Int) (l0_8 : List (List (List (S80)))) (l0_9 : List Int) (a1 : Int) (l2 : List Int) : Option (Bool) := (quarrellaw20_alive.f k).bind fun t633 => (if t633 = true then ((quarrellaw20_great.f k a0_0 a0_1 a0_2 a0_3 a0_4 a0_5 l0_6 l0_7 l0_8 l0_9).bind fun t634 => (if t634 = true then (quarrellaw20_ScriptSpoilt.j0 k a1 l2 true a0_0 a0_1 a0_2 a0_3 a0_4 a0_5 l0_6 l0_7 l0_8 l0_9) else (quarrellaw20_ScriptSpoilt.j0 k a1 l2 (decide ((l2.length : Int) > 300)) a0_0 a0_1 a0_2 a0_3 a0_4 a0_5 l0_6 l0_7 l0_8 l0_9))) else (some false))
theorem quarrellaw20_ScriptSpoilt.mono_l : ∀ k, (∀ y0 y1 y2 y3 y4 y5 y6 y7 y8 y9 y10 y11 y12, LeO (quarrellaw20_ScriptSpoilt.j0 k y0 y1 y2 y3 y4 y5 y6 y7 y8 y9 y10 y11 y12) (quarrellaw20_ScriptSpoilt.j0 (k + 1) y0 y1 y2 y3 y4 y5 y6 y7 y8 y9 y10 y11 y12)) ∧ (∀ y0 y1 y2 y3 y4 y5 y6 y7 y8 y9 y10 y11 y12 y13 y14, LeO (quarrellaw20_ScriptSpoilt.j1 k y0 y1 y2 y3 y4 y5 y6 y7 y8 y9 y10 y11 y12 y13 y14) (quarrellaw20_ScriptSpoilt.j1 (k + 1) y0 y1 y2 y3 y4 y5 y6 y7 y8 y9 y10 y11 y12 y13 y14)) ∧ (∀ y0 y1 y2, LeO (quarrellaw20_ScriptSpoilt.j2 k y0 y1 y2) (quarrellaw20_ScriptSpoilt.j2 (k + 1) y0 y1 y2))
  | 0 => ⟨fun _ _ _ _ _ _ _ _ _ _ _ _ _ r h => by simp [quarrellaw20_ScriptSpoilt.j0] at h, fun _ _ _ _ _ _ _ _ _ _ _ _ _ _ _ r h => by simp [quarrellaw20_ScriptSpoilt.j1] at h, fun _ _ _ r h => by simp [quarrellaw20_ScriptSpoilt.j2] at h⟩
  | k + 1 => by
    obtain ⟨ih0, ih1, ih2⟩ := quarrellaw20_ScriptSpoilt.mono_l k
    refine ⟨?_, ?_, ?_⟩
    · intro y0 y1 y2 y3 y4 y5 y6 y7 y8 y9 y10 y11 y12
      unfold quarrellaw20_ScriptSpoilt.j0
      repeat' first
      | (with_reducible exact ih0 _ _ _ _ _ _ _ _ _ _ _ _ _)
      | (with_reducible exact ih1 _ _ _ _ _ _ _ _ _ _ _ _ _ _ _)
      | (with_reducible exact ih2 _ _ _)
      | (with_reducible exact quarrellaw20_alive.mono _)
      | (with_reducible exact quarrellaw20_great.mono _ _ _ _ _ _ _ _ _ _ _)
      | (with_reducible exact script_Get.mono _ _)
      | (with_reducible exact script_Put.mono _ _ _ _ _ _ _ _ _ _ _)
      | (with_reducible exact LeO.refl _)
      | (with_reducible exact LeO.none _)
      | (with_reducible refine LeO.ite ?_ ?_)
      | (with_reducible refine LeO.bind ?_ (fun _ => ?_))
      | exact ih0 _ _ _ _ _ _ _ _ _ _ _ _ _
      | exact ih1 _ _ _ _ _ _ _ _ _ _ _ _ _ _ _
      | exact ih2 _ _ _
      | exact quarrellaw20_alive.mono _
      | exact quarrellaw20_great.mono _ _ _ _ _ _ _ _ _ _ _
      | exact script_Get.mono _ _
      | exact script_Put.mono _ _ _ _ _ _ _ _ _ _ _
      | exact LeO.none _
      | refine LeO.ite ?_ ?_
      | refine LeO.bind ?_ (fun _ => ?_)
    · intro y0 y1 y2 y3 y4 y5 y6 y7 y8 y9 y10 y11 y12 y13 y14
      unfold quarrellaw20_ScriptSpoilt.j1
      repeat' first
      | (with_reducible exact ih0 _ _ _ _ _ _ _ _ _ _ _ _ _)
      | (with_reducible exact ih1 _ _ _ _ _ _ _ _ _ _ _ _ _ _ _)
      | (with_reducible exact ih2 _ _ _)
      | (with_reducible exact quarrellaw20_alive.mono _)
      | (with_reducible exact quarrellaw20_great.mono _ _ _ _ _ _ _ _ _ _ _)
      | (with_reducible exact script_Get.mono _ _)
      | (with_reducible exact script_Put.mono _ _ _ _ _ _ _ _ _ _ _)
      | (with_reducible exact LeO.refl _)
      | (with_reducible exact LeO.none _)
      | (with_reducible refine LeO.ite ?_ ?_)
      | (with_reducible refine LeO.bind ?_ (fun _ => ?_))
      | exact ih0 _ _ _ _ _ _ _ _ _ _ _ _ _
      | exact ih1 _ _ _ _ _ _ _ _ _ _ _ _ _ _ _
      | exact ih2 _ _ _
      | exact quarrellaw20_alive.mono _
      | exact quarrellaw20_great.mono _ _ _ _ _ _ _ _ _ _ _
      | exact script_Get.mono _ _
      | exact script_Put.mono _ _ _ _ _ _ _ _ _ _ _
      | exact LeO.none _
      | refine LeO.ite ?_ ?_
      | refine LeO.bind ?_ (fun _ => ?_)
    · intro y0 y1 y2
      unfold quarrellaw20_ScriptSpoilt.j2
      repeat' first
      | (with_reducible exact ih0 _ _ _ _ _ _ _ _ _ _ _ _ _)
      | (with_reducible exact ih1 _ _ _ _ _ _ _ _ _ _ _ _ _ _ _)
      | (with_reducible exact ih2 _ _ _)
      | (with_reducible exact quarrellaw20_alive.mono _)
      | (with_reducible exact quarrellaw20_great.mono _ _ _ _ _ _ _ _ _ _ _)
      | (with_reducible exact script_Get.mono _ _)
      | (with_reducible exact script_Put.mono _ _ _ _ _ _ _ _ _ _ _)
      | (with_reducible exact LeO.refl _)
      | (with_reducible exact LeO.none _)
      | (with_reducible refine LeO.ite ?_ ?_)
      | (with_reducible refine LeO.bind ?_ (fun _ => ?_))
      | exact ih0 _ _ _ _ _ _ _ _ _ _ _ _ _
      | exact ih1 _ _ _ _ _ _ _ _ _ _ _ _ _ _ _
      | exact ih2 _ _ _
      | exact quarrellaw20_alive.mono _
      | exact quarrellaw20_great.mono _ _ _ _ _ _ _ _ _ _ _
      | exact script_Get.mono _ _
      | exact script_Put.mono _ _ _ _ _ _ _ _ _ _ _
      | exact LeO.none _
      | refine LeO.ite ?_ ?_
      | refine LeO.bind ?_ (fun _ => ?_)
theorem quarrellaw20_ScriptSpoilt.mono : ∀ a0 a1 a2 a3 a4 a5 a6 a7 a8 a9 a10 a11 k, LeO (quarrellaw20_ScriptSpoilt.f k a0 a1 a2 a3 a4 a5 a6 a7 a8 a9 a10 a11) (quarrellaw20_ScriptSpoilt.f (k + 1) a0 a1 a2 a3 a4 a5 a6 a7 a8 a9 a10 a11) := by
  intro a0 a1 a2 a3 a4 a5 a6 a7 a8 a9 a10 a11 k
  obtain ⟨ih0, ih1, ih2⟩ := quarrellaw20_ScriptSpoilt.mono_l k
  unfold quarrellaw20_ScriptSpoilt.f
  repeat' first
      | (with_reducible exact ih0 _ _ _ _ _ _ _ _ _ _ _ _ _)
      | (with_reducible exact ih1 _ _ _ _ _ _ _ _ _ _ _ _ _ _ _)
      | (with_reducible exact ih2 _ _ _)
      | (with_reducible exact quarrellaw20_alive.mono _)
      | (with_reducible exact quarrellaw20_great.mono _ _ _ _ _ _ _ _ _ _ _)
      | (with_reducible exact script_Get.mono _ _)
      | (with_reducible exact script_Put.mono _ _ _ _ _ _ _ _ _ _ _)
      | (with_reducible exact LeO.refl _)
      | (with_reducible exact LeO.none _)
      | (with_reducible refine LeO.ite ?_ ?_)
      | (with_reducible refine LeO.bind ?_ (fun _ => ?_))
      | exact ih0 _ _ _ _ _ _ _ _ _ _ _ _ _
      | exact ih1 _ _ _ _ _ _ _ _ _ _ _ _ _ _ _
      | exact ih2 _ _ _
      | exact quarrellaw20_alive.mono _
      | exact quarrellaw20_great.mono _ _ _ _ _ _ _ _ _ _ _
      | exact script_Get.mono _ _
      | exact script_Put.mono _ _ _ _ _ _ _ _ _ _ _
      | exact LeO.none _
      | refine LeO.ite ?_ ?_
      | refine LeO.bind ?_ (fun _ => ?_)
def quarrellaw20_ScriptSpoilt.T22 : Bool × List (List Nat × List Nat) := (true, [([], []), ([], []), ([], []), ([2], [2]), ([3], [3]), ([4], [4]), ([5], [5]), ([6], [6]), ([0, 0], [0]), ([8, 0], [8]), ([1, 0, 1, 2, 3, 4, 5, 6, 7, 8, 9], [1]), ([10, 7, 9, 0, 1, 2, 3, 4, 5, 6, 7, 8, 9], [7, 10])])
def quarrellaw20_ScriptSpoilt.B22 : List Nat := [0, 0, 0, 4, 12, 28, 60, 124, 1, 257, 1023, 2047]
theorem quarrellaw20_ScriptSpoilt.tab22 : rtab .any (opsOf Try.f8 22) = quarrellaw20_ScriptSpoilt.T22 := by kernel_rfl
theorem quarrellaw20_ScriptSpoilt.bits22 : waitsOk quarrellaw20_ScriptSpoilt.T22.2 quarrellaw20_ScriptSpoilt.B22 = true := by kernel_rfl
set_option maxHeartbeats 8000000 in
set_option maxRecDepth 100000 in
theorem quarrellaw20_ScriptSpoilt.calls (k : Nat) (a0_0 : Int) (a0_1 : Int) (a0_2 : Int) (a0_3 : Int) (a0_4 : Int) (a0_5 : Int) (A0_6 : Option Addr) (c0_6 : Nat) (l0_6 : List Int) (A0_7 : Option Addr) (c0_7 : Nat) (l0_7 : List Int) (A0_8 : Option Addr) (c0_8 : Nat) (l0_8 : List (List (List (S80)))) (A0_9 : Option Addr) (c0_9 : Nat) (l0_9 : List Int) (a1 : Int) (A2 : Option Addr) (c2 : Nat) (l2 : List Int) (r : Bool) (w : World) (hr0_6 : Kd.C (Kd.int .i64) w A0_6 l0_6.length l0_6) (hc0_6 : l0_6.length ≤ c0_6) (hr0_7 : Kd.C (Kd.int .u8) w A0_7 l0_7.length l0_7) (hc0_7 : l0_7.length ≤ c0_7) (hr0_8 : Kd.C (Kd.slice 61 (Kd.slice 80 k80)) w A0_8 l0_8.length l0_8) (hc0_8 : l0_8.length ≤ c0_8) (hr0_9 : Kd.C (Kd.int .i64) w A0_9 l0_9.length l0_9) (hc0_9 : l0_9.length ≤ c0_9) (hr2 : Kd.C (Kd.int .u8) w A2 l2.length l2) (hc2 : l2.length ≤ c2) (h : quarrellaw20_ScriptSpoilt.f k a0_0 a0_1 a0_2 a0_3 a0_4 a0_5 l0_6 l0_7 l0_8 l0_9 a1 l2 = some r) :
  Calls Try.prog 8 #[.agg #[.int .i64 a0_0, .int .i64 a0_1, .int .i64 a0_2, .int .i64 a0_3, .int .i64 a0_4, .int .i64 a0_5, .slice A0_6 l0_6.length c0_6, .slice A0_7 l0_7.length c0_7, .slice A0_8 l0_8.length c0_8, .slice A0_9 l0_9.length c0_9], .int .u8 a1, .slice A2 l2.length c2] w fun e w' => e = .returned (.bool r) ∧ Below w.heap.size w w' := by
 have hu34 := Try.underlying34
 have hu30 := Try.underlying30
 have HR0_6 := Aside0.mk hr0_6
 have HC0_6 := Aside0.mk hc0_6
 clear hr0_6 hc0_6
 have HR0_7 := Aside0.mk hr0_7
 have HC0_7 := Aside0.mk hc0_7
 clear hr0_7 hc0_7
 have HR0_8 := Aside0.mk hr0_8
 have HC0_8 := Aside0.mk hc0_8
 clear hr0_8 hc0_8
 have HR0_9 := Aside0.mk hr0_9
 have HC0_9 := Aside0.mk hc0_9
 clear hr0_9 hc0_9
 have HR2 := Aside0.mk hr2
 have HC2 := Aside0.mk hc2
 clear hr2 hc2
 have HB := Aside0.mk (Below.refl w.heap.size w)
 have H : ((quarrellaw20_alive.f k).bind fun t633 => (if t633 = true then ((quarrellaw20_great.f k a0_0 a0_1 a0_2 a0_3 a0_4 a0_5 l0_6 l0_7 l0_8 l0_9).bind fun t634 => (if t634 = true then (quarrellaw20_ScriptSpoilt.j0 k a1 l2 true a0_0 a0_1 a0_2 a0_3 a0_4 a0_5 l0_6 l0_7 l0_8 l0_9) else (quarrellaw20_ScriptSpoilt.j0 k a1 l2 (decide ((l2.length : Int) > 300)) a0_0 a0_1 a0_2 a0_3 a0_4 a0_5 l0_6 l0_7 l0_8 l0_9))) else (some false))) = some r := h
 clear h
 replace H := Option.bind_eq_some_iff.mp H
 obtain ⟨t633, A40, H⟩ := H
 replace H : (if t633 = true then ((quarrellaw20_great.f k a0_0 a0_1 a0_2 a0_3 a0_4 a0_5 l0_6 l0_7 l0_8 l0_9).bind fun t634 => (if t634 = true then (quarrellaw20_ScriptSpoilt.j0 k a1 l2 true a0_0 a0_1 a0_2 a0_3 a0_4 a0_5 l0_6 l0_7 l0_8 l0_9) else (quarrellaw20_ScriptSpoilt.j0 k a1 l2 (decide ((l2.length : Int) > 300)) a0_0 a0_1 a0_2 a0_3 a0_4 a0_5 l0_6 l0_7 l0_8 l0_9))) else (some false)) = some r := H
 have A4 := Aside0.mk A40
 clear A40
 by_cases c5 : t633 = true
 ·subst c5
  have H1 : ((quarrellaw20_great.f k a0_0 a0_1 a0_2 a0_3 a0_4 a0_5 l0_6 l0_7 l0_8 l0_9).bind fun t634 => (if t634 = true then (quarrellaw20_ScriptSpoilt.j0 k a1 l2 true a0_0 a0_1 a0_2 a0_3 a0_4 a0_5 l0_6 l0_7 l0_8 l0_9) else (quarrellaw20_ScriptSpoilt.j0 k a1 l2 (decide ((l2.length : Int) > 300)) a0_0 a0_1 a0_2 a0_3 a0_4 a0_5 l0_6 l0_7 l0_8 l0_9))) = some r := by rw [if_pos rfl] at H; exact H
  clear H
  have H := H1
  clear H1
  have HC6 := Aside0.mk H
  clear H
  go_enter Try.func8, Try.ntmps8
  go_upto_region 3 with (first | ((with_reducible refine gate_dst (N := 3) rfl ?_); (try (refine gate_guard (by rfl) ?_; dsimp only)); refine box_event ?hg (N := 3) ?hd (cs := #[.int .i64 a0_0, .int .i64 a0_1, .int .i64 a0_2, .int .i64 a0_3, .int .i64 a0_4, .int .i64 a0_5, .slice A0_6 l0_6.length c0_6, .slice A0_7 l0_7.length c0_7, .slice A0_8 l0_8.length c0_8, .slice A0_9 l0_9.length c0_9]) (t := 34) ?hr ?_; (case hd => rfl); (case hg => rfl); (case hr => first | (go_simp; done) | (go_simp; rfl)); intro gb632 hg w7 hbox hb; have n0_ := Aside0.mk (below_step (by repeat (first | (with_reducible first | exact HB.out | apply below_alloc | apply pw_below_drewN | apply below_drew1) | exact HB.out)) hb); have n1_ := Aside0.mk (hbox); have n2_ := Aside0.mk ((by rw [hg]; exact (below_size (by repeat (first | (with_reducible first | exact HB.out | apply below_alloc | apply pw_below_drewN | apply below_drew1) | exact HB.out))) : w.heap.size ≤ gb632)); have n3_ := Aside0.mk ((by rw [hg]; exact (below_size (by repeat (first | (with_reducible first | exact HB.out | apply below_alloc | apply pw_below_drewN | apply below_drew1) | exact HB.out))) : w.heap.size ≤ gb632)); clear HB; have HB := n0_; have BK632 := n1_; have GW632 := n2_; have GE632 := n3_; clear n0_ n1_ n2_ n3_; clear hb hbox hg) | ((with_reducible refine gate_callee (f := 9) rfl ?_); refine goesL_ (some 14) rfl rfl Try.func9 (by kernel_rfl) rfl #[] rfl (by (try simp only [List.map_toArray, List.map_cons, List.map_nil]); first | done | rfl | (simp only [List.length_drop, List.length_take]; rfl)) ?_; (with_reducible refine (quarrellaw20_alive.calls k  true _ A4.out).mono ?_); rintro e w8 ⟨rfl, hb⟩; refine ⟨_, rfl, ?_⟩; have n0_ := Aside0.mk (blk_below (g := gb632) (o := .cells #[.int .i64 a0_0, .int .i64 a0_1, .int .i64 a0_2, .int .i64 a0_3, .int .i64 a0_4, .int .i64 a0_5, .slice A0_6 l0_6.length c0_6, .slice A0_7 l0_7.length c0_7, .slice A0_8 l0_8.length c0_8, .slice A0_9 l0_9.length c0_9] 34 (0, 0)) (by (with_reducible repeat (first | refine blk_drewN ?_ _ | refine blk_drew ?_ | refine blk_alloc ?_ _)); exact BK632.out) hb); have n1_ := Aside0.mk (below_step (by repeat (first | (with_reducible first | exact HB.out | apply below_alloc | apply pw_below_drewN | apply below_drew1 | refine below_set ?_ GE632.out) | exact HB.out)) hb); clear BK632; clear HB; have BK632 := n0_; have HB := n1_; clear n0_ n1_; (try clear hb); (try clear hb2); (try clear hk); (try clear hi)))
  (try simp only [Act.put, List.setIfInBounds_toArray, List.set_cons_zero, List.set_cons_succ])
  go_cut [22] (fun v22 wc => ∃ (kq : Nat) (x22_5 : Bool), v22 = .bool x22_5 ∧ Aside0 (quarrellaw20_ScriptSpoilt.j0 kq a1 l2 x22_5 a0_0 a0_1 a0_2 a0_3 a0_4 a0_5 l0_6 l0_7 l0_8 l0_9 = some r) ∧ Aside0 (kq ≤ k) ∧ Aside0 (wc.heap[gb632]? = some (.cells #[.int .i64 a0_0, .int .i64 a0_1, .int .i64 a0_2, .int .i64 a0_3, .int .i64 a0_4, .int .i64 a0_5, (.slice A0_6 l0_6.length c0_6), (.slice A0_7 l0_7.length c0_7), (.slice A0_8 l0_8.length c0_8), (.slice A0_9 l0_9.length c0_9)] 34 (0, 0))) ∧ Aside0 (Below w.heap.size w wc))
  case first =>
   have H := HC6.out
   clear HC6
   replace H := Option.bind_eq_some_iff.mp H
   obtain ⟨t634, A90, H⟩ := H
   replace H : (if t634 = true then (quarrellaw20_ScriptSpoilt.j0 k a1 l2 true a0_0 a0_1 a0_2 a0_3 a0_4 a0_5 l0_6 l0_7 l0_8 l0_9) else (quarrellaw20_ScriptSpoilt.j0 k a1 l2 (decide ((l2.length : Int) > 300)) a0_0 a0_1 a0_2 a0_3 a0_4 a0_5 l0_6 l0_7 l0_8 l0_9)) = some r := H
   have A9 := Aside0.mk A90
   clear A90
   by_cases c10 : t634 = true
   ·subst c10
    have H1 : (quarrellaw20_ScriptSpoilt.j0 k a1 l2 true a0_0 a0_1 a0_2 a0_3 a0_4 a0_5 l0_6 l0_7 l0_8 l0_9) = some r := by rw [if_pos rfl] at H; exact H
    clear H
    have H := H1
    clear H1
    have H' := Aside0.mk H
    clear H
    have hcz11_0 : w8.cell? ⟨gb632, 0, none⟩ = some (.int .i64 a0_0) := (blk_cell BK632.out 0).trans rfl
    have hcz11_1 : w8.cell? ⟨gb632, 1, none⟩ = some (.int .i64 a0_1) := (blk_cell BK632.out 1).trans rfl
    have hcz11_2 : w8.cell? ⟨gb632, 2, none⟩ = some (.int .i64 a0_2) := (blk_cell BK632.out 2).trans rfl
    have hcz11_3 : w8.cell? ⟨gb632, 3, none⟩ = some (.int .i64 a0_3) := (blk_cell BK632.out 3).trans rfl
    have hcz11_4 : w8.cell? ⟨gb632, 4, none⟩ = some (.int .i64 a0_4) := (blk_cell BK632.out 4).trans rfl
    have hcz11_5 : w8.cell? ⟨gb632, 5, none⟩ = some (.int .i64 a0_5) := (blk_cell BK632.out 5).trans rfl
    have hcz11_6 : w8.cell? ⟨gb632, 6, none⟩ = some (.slice A0_6 l0_6.length c0_6) := (blk_cell BK632.out 6).trans rfl
    have hcz11_7 : w8.cell? ⟨gb632, 7, none⟩ = some (.slice A0_7 l0_7.length c0_7) := (blk_cell BK632.out 7).trans rfl
    have hcz11_8 : w8.cell? ⟨gb632, 8, none⟩ = some (.slice A0_8 l0_8.length c0_8) := (blk_cell BK632.out 8).trans rfl
    have hcz11_9 : w8.cell? ⟨gb632, 9, none⟩ = some (.slice A0_9 l0_9.length c0_9) := (blk_cell BK632.out 9).trans rfl
    have hfz11_0 := blk_frozen BK632.out 0
    have hfz11_1 := blk_frozen BK632.out 1
    have hfz11_2 := blk_frozen BK632.out 2
    have hfz11_3 := blk_frozen BK632.out 3
    have hfz11_4 := blk_frozen BK632.out 4
    have hfz11_5 := blk_frozen BK632.out 5
    have hfz11_6 := blk_frozen BK632.out 6
    have hfz11_7 := blk_frozen BK632.out 7
    have hfz11_8 := blk_frozen BK632.out 8
    have hfz11_9 := blk_frozen BK632.out 9
    go_wp2_with (first | ((with_reducible refine gate_callee (f := 13) rfl ?_); refine goesL_ (some 17) rfl rfl Try.func13 (by kernel_rfl) rfl #[.agg #[.int .i64 a0_0, .int .i64 a0_1, .int .i64 a0_2, .int .i64 a0_3, .int .i64 a0_4, .int .i64 a0_5, .slice A0_6 l0_6.length c0_6, .slice A0_7 l0_7.length c0_7, .slice A0_8 l0_8.length c0_8, .slice A0_9 l0_9.length c0_9]] rfl (by (try simp only [List.map_toArray, List.map_cons, List.map_nil]); first | done | rfl | (simp only [List.length_drop, List.length_take]; rfl)) ?_; (with_reducible refine (quarrellaw20_great.calls k a0_0 a0_1 a0_2 a0_3 a0_4 a0_5 _ _ l0_6 _ _ l0_7 _ _ l0_8 _ _ l0_9 true _ ?side1 ?side2 ?side3 ?side4 ?side5 ?side6 ?side7 ?side8 A9.out).mono ?_); (case side1 => repeat (first | exact (Kd.C_below HR0_6.out HB.out) | (with_reducible refine Kd.C_alloc ?_ _) | (with_reducible refine Kd.C_drewN ?_ _) | (with_reducible refine Kd.C_drew ?_))); (case side2 => exact HC0_6.out); (case side3 => repeat (first | exact (Kd.C_below HR0_7.out HB.out) | (with_reducible refine Kd.C_alloc ?_ _) | (with_reducible refine Kd.C_drewN ?_ _) | (with_reducible refine Kd.C_drew ?_))); (case side4 => exact HC0_7.out); (case side5 => repeat (first | exact (Kd.C_below HR0_8.out HB.out) | (with_reducible refine Kd.C_alloc ?_ _) | (with_reducible refine Kd.C_drewN ?_ _) | (with_reducible refine Kd.C_drew ?_))); (case side6 => exact HC0_8.out); (case side7 => repeat (first | exact (Kd.C_below HR0_9.out HB.out) | (with_reducible refine Kd.C_alloc ?_ _) | (with_reducible refine Kd.C_drewN ?_ _) | (with_reducible refine Kd.C_drew ?_))); (case side8 => exact HC0_9.out); rintro e w12 ⟨rfl, hb⟩; refine ⟨_, rfl, ?_⟩; have n0_ := Aside0.mk (blk_below (g := gb632) (o := .cells #[.int .i64 a0_0, .int .i64 a0_1, .int .i64 a0_2, .int .i64 a0_3, .int .i64 a0_4, .int .i64 a0_5, .slice A0_6 l0_6.length c0_6, .slice A0_7 l0_7.length c0_7, .slice A0_8 l0_8.length c0_8, .slice A0_9 l0_9.length c0_9] 34 (0, 0)) (by (with_reducible repeat (first | refine blk_drewN ?_ _ | refine blk_drew ?_ | refine blk_alloc ?_ _)); exact BK632.out) hb); have n1_ := Aside0.mk (below_step (by repeat (first | (with_reducible first | exact HB.out | apply below_alloc | apply pw_below_drewN | apply below_drew1 | refine below_set ?_ GE632.out) | exact HB.out)) hb); clear BK632; clear HB; have BK632 := n0_; have HB := n1_; clear n0_ n1_; (try clear hb); (try clear hb2); (try clear hk); (try clear hi)))
    go_meet
    case rel => exact ⟨_, (true), (by first | rfl | (simp; done) | (simp [*]; done)), H', ⟨by first | omega | exact Nat.le_refl _⟩, ⟨by (with_reducible repeat (first | refine blk_drewN ?_ _ | refine blk_drew ?_ | refine blk_alloc ?_ _)); exact BK632.out⟩, ⟨by repeat (first | (with_reducible first | exact HB.out | apply below_alloc | apply pw_below_drewN | apply below_drew1 | refine below_set ?_ GE632.out) | exact HB.out)⟩⟩
   ·replace c10 := Bool.eq_false_iff.mpr c10
    subst c10
    have H1 : (quarrellaw20_ScriptSpoilt.j0 k a1 l2 (decide ((l2.length : Int) > 300)) a0_0 a0_1 a0_2 a0_3 a0_4 a0_5 l0_6 l0_7 l0_8 l0_9) = some r := by rw [if_neg (show ¬ (false = true) by decide)] at H; exact H
    clear H
    have H := H1
    clear H1
    have H' := Aside0.mk H
    clear H
    have hcz13_0 : w8.cell? ⟨gb632, 0, none⟩ = some (.int .i64 a0_0) := (blk_cell BK632.out 0).trans rfl
    have hcz13_1 : w8.cell? ⟨gb632, 1, none⟩ = some (.int .i64 a0_1) := (blk_cell BK632.out 1).trans rfl
    have hcz13_2 : w8.cell? ⟨gb632, 2, none⟩ = some (.int .i64 a0_2) := (blk_cell BK632.out 2).trans rfl
    have hcz13_3 : w8.cell? ⟨gb632, 3, none⟩ = some (.int .i64 a0_3) := (blk_cell BK632.out 3).trans rfl
    have hcz13_4 : w8.cell? ⟨gb632, 4, none⟩ = some (.int .i64 a0_4) := (blk_cell BK632.out 4).trans rfl
    have hcz13_5 : w8.cell? ⟨gb632, 5, none⟩ = some (.int .i64 a0_5) := (blk_cell BK632.out 5).trans rfl
    have hcz13_6 : w8.cell? ⟨gb632, 6, none⟩ = some (.slice A0_6 l0_6.length c0_6) := (blk_cell BK632.out 6).trans rfl
    have hcz13_7 : w8.cell? ⟨gb632, 7, none⟩ = some (.slice A0_7 l0_7.length c0_7) := (blk_cell BK632.out 7).trans rfl
    have hcz13_8 : w8.cell? ⟨gb632, 8, none⟩ = some (.slice A0_8 l0_8.length c0_8) := (blk_cell BK632.out 8).trans rfl
    have hcz13_9 : w8.cell? ⟨gb632, 9, none⟩ = some (.slice A0_9 l0_9.length c0_9) := (blk_cell BK632.out 9).trans rfl
    have hfz13_0 := blk_frozen BK632.out 0
    have hfz13_1 := blk_frozen BK632.out 1
    have hfz13_2 := blk_frozen BK632.out 2
    have hfz13_3 := blk_frozen BK632.out 3
    have hfz13_4 := blk_frozen BK632.out 4
    have hfz13_5 := blk_frozen BK632.out 5
    have hfz13_6 := blk_frozen BK632.out 6
    have hfz13_7 := blk_frozen BK632.out 7
    have hfz13_8 := blk_frozen BK632.out 8
    have hfz13_9 := blk_frozen BK632.out 9
    go_wp2_with (first | ((with_reducible refine gate_callee (f := 13) rfl ?_); refine goesL_ (some 17) rfl rfl Try.func13 (by kernel_rfl) rfl #[.agg #[.int .i64 a0_0, .int .i64 a0_1, .int .i64 a0_2, .int .i64 a0_3, .int .i64 a0_4, .int .i64 a0_5, .slice A0_6 l0_6.length c0_6, .slice A0_7 l0_7.length c0_7, .slice A0_8 l0_8.length c0_8, .slice A0_9 l0_9.length c0_9]] rfl (by (try simp only [List.map_toArray, List.map_cons, List.map_nil]); first | done | rfl | (simp only [List.length_drop, List.length_take]; rfl)) ?_; (with_reducible refine (quarrellaw20_great.calls k a0_0 a0_1 a0_2 a0_3 a0_4 a0_5 _ _ l0_6 _ _ l0_7 _ _ l0_8 _ _ l0_9 false _ ?side1 ?side2 ?side3 ?side4 ?side5 ?side6 ?side7 ?side8 A9.out).mono ?_); (case side1 => repeat (first | exact (Kd.C_below HR0_6.out HB.out) | (with_reducible refine Kd.C_alloc ?_ _) | (with_reducible refine Kd.C_drewN ?_ _) | (with_reducible refine Kd.C_drew ?_))); (case side2 => exact HC0_6.out); (case side3 => repeat (first | exact (Kd.C_below HR0_7.out HB.out) | (with_reducible refine Kd.C_alloc ?_ _) | (with_reducible refine Kd.C_drewN ?_ _) | (with_reducible refine Kd.C_drew ?_))); (case side4 => exact HC0_7.out); (case side5 => repeat (first | exact (Kd.C_below HR0_8.out HB.out) | (with_reducible refine Kd.C_alloc ?_ _) | (with_reducible refine Kd.C_drewN ?_ _) | (with_reducible refine Kd.C_drew ?_))); (case side6 => exact HC0_8.out); (case side7 => repeat (first | exact (Kd.C_below HR0_9.out HB.out) | (with_reducible refine Kd.C_alloc ?_ _) | (with_reducible refine Kd.C_drewN ?_ _) | (with_reducible refine Kd.C_drew ?_))); (case side8 => exact HC0_9.out); rintro e w14 ⟨rfl, hb⟩; refine ⟨_, rfl, ?_⟩; have n0_ := Aside0.mk (blk_below (g := gb632) (o := .cells #[.int .i64 a0_0, .int .i64 a0_1, .int .i64 a0_2, .int .i64 a0_3, .int .i64 a0_4, .int .i64 a0_5, .slice A0_6 l0_6.length c0_6, .slice A0_7 l0_7.length c0_7, .slice A0_8 l0_8.length c0_8, .slice A0_9 l0_9.length c0_9] 34 (0, 0)) (by (with_reducible repeat (first | refine blk_drewN ?_ _ | refine blk_drew ?_ | refine blk_alloc ?_ _)); exact BK632.out) hb); have n1_ := Aside0.mk (below_step (by repeat (first | (with_reducible first | exact HB.out | apply below_alloc | apply pw_below_drewN | apply below_drew1 | refine below_set ?_ GE632.out) | exact HB.out)) hb); clear BK632; clear HB; have BK632 := n0_; have HB := n1_; clear n0_ n1_; (try clear hb); (try clear hb2); (try clear hk); (try clear hi)))
    go_meet
    case rel => exact ⟨_, (decide ((l2.length : Int) > 300)), (by first | rfl | (simp; done) | (simp [*]; done)), H', ⟨by first | omega | exact Nat.le_refl _⟩, ⟨by (with_reducible repeat (first | refine blk_drewN ?_ _ | refine blk_drew ?_ | refine blk_alloc ?_ _)); exact BK632.out⟩, ⟨by repeat (first | (with_reducible first | exact HB.out | apply below_alloc | apply pw_below_drewN | apply below_drew1 | refine below_set ?_ GE632.out) | exact HB.out)⟩⟩
  case rest =>
   clear HC6
   try clear c1
   try clear c2
   try clear p2
   try clear c5
   try clear c8
   try clear c9
   try clear c10
   try clear c13
   try clear hcz11_0
   try clear hcz11_1
   try clear hcz11_2
   try clear hcz11_3
   try clear hcz11_4
   try clear hcz11_5
   try clear hcz11_6
   try clear hcz11_7
   try clear hcz11_8
   try clear hcz11_9
   try clear hcz13_0
   try clear hcz13_1
   try clear hcz13_2
   try clear hcz13_3
   try clear hcz13_4
   try clear hcz13_5
   try clear hcz13_6
   try clear hcz13_7
   try clear hcz13_8
   try clear hcz13_9
   try clear hfz11_0
   try clear hfz11_1
   try clear hfz11_2
   try clear hfz11_3
   try clear hfz11_4
   try clear hfz11_5
   try clear hfz11_6
   try clear hfz11_7
   try clear hfz11_8
   try clear hfz11_9
   try clear hfz13_0
   try clear hfz13_1
   try clear hfz13_2
   try clear hfz13_3
   try clear hfz13_4
   try clear hfz13_5
   try clear hfz13_6
   try clear hfz13_7
   try clear hfz13_8
   try clear hfz13_9
   obtain ⟨kq, x22_5, rfl, HA, HJ5, BK632, HB⟩ := hcut
   cases kq with
   | zero => exact absurd HA.out (by simp [quarrellaw20_ScriptSpoilt.j0])
   | succ kj5 =>
    have H := HA.out
    clear HA
    simp only [quarrellaw20_ScriptSpoilt.j0] at H
    by_cases c15 : x22_5 = true
    ·subst c15
     have H1 : (some true) = some r := by rw [if_pos rfl] at H; exact H
     clear H
     have H := H1
     clear H1
     obtain rfl := Option.some.inj H
     go_wp2
     go_ret
     exact ⟨by first | rfl | (simp [errW_none, errW_some] <;> rfl) | (simp [*, errW_none, errW_some] <;> rfl), by repeat (first | (with_reducible first | exact HB.out | apply below_alloc | apply pw_below_drewN | apply below_drew1 | refine below_set ?_ GE632.out) | exact HB.out)⟩
    ·replace c15 := Bool.eq_false_iff.mpr c15
     subst c15
     have H1 : ((quarrellaw20_Of.f a0_0 a0_1 a0_2 a0_3 a0_4 a0_5 l0_6 l0_7 l0_8 l0_9).bind fun bt635 => ((script_Put.f kj5 bt635.1 bt635.2.1 bt635.2.2.1 bt635.2.2.2.1 bt635.2.2.2.2.1 bt635.2.2.2.2.2.1 bt635.2.2.2.2.2.2.1 bt635.2.2.2.2.2.2.2.1 bt635.2.2.2.2.2.2.2.2.1 bt635.2.2.2.2.2.2.2.2.2).bind fun bt653 => (if bt653.2 = 0 then (quarrellaw20_ScriptSpoilt.j1 kj5 a1 l2 bt653.1 bt653.2 (decide ((bt653.1.length : Int) < 7)) a0_0 a0_1 a0_2 a0_3 a0_4 a0_5 l0_6 l0_7 l0_8 l0_9) else (quarrellaw20_ScriptSpoilt.j1 kj5 a1 l2 bt653.1 bt653.2 true a0_0 a0_1 a0_2 a0_3 a0_4 a0_5 l0_6 l0_7 l0_8 l0_9)))) = some r := by rw [if_neg (show ¬ (false = true) by decide)] at H; exact H
     clear H
     have H := H1
     clear H1
     replace H := Option.bind_eq_some_iff.mp H
     obtain ⟨⟨t635, t636, t637, t638, t639, t640, t641, t644, t647, t650⟩, A160, H⟩ := H
     replace H : ((script_Put.f kj5 t635 t636 t637 t638 t639 t640 t641 t644 t647 t650).bind fun bt653 => (if bt653.2 = 0 then (quarrellaw20_ScriptSpoilt.j1 kj5 a1 l2 bt653.1 bt653.2 (decide ((bt653.1.length : Int) < 7)) a0_0 a0_1 a0_2 a0_3 a0_4 a0_5 l0_6 l0_7 l0_8 l0_9) else (quarrellaw20_ScriptSpoilt.j1 kj5 a1 l2 bt653.1 bt653.2 true a0_0 a0_1 a0_2 a0_3 a0_4 a0_5 l0_6 l0_7 l0_8 l0_9))) = some r := H
     have A16 := Aside0.mk A160
     clear A160
     replace H := Option.bind_eq_some_iff.mp H
     obtain ⟨⟨t653, t656⟩, A170, H⟩ := H
     replace H : (if t656 = 0 then (quarrellaw20_ScriptSpoilt.j1 kj5 a1 l2 t653 t656 (decide ((t653.length : Int) < 7)) a0_0 a0_1 a0_2 a0_3 a0_4 a0_5 l0_6 l0_7 l0_8 l0_9) else (quarrellaw20_ScriptSpoilt.j1 kj5 a1 l2 t653 t656 true a0_0 a0_1 a0_2 a0_3 a0_4 a0_5 l0_6 l0_7 l0_8 l0_9)) = some r := H
     have A17 := Aside0.mk A170
     clear A170
     have HC18 := Aside0.mk H
     clear H
     have hcz19_0 : wc.cell? ⟨gb632, 0, none⟩ = some (.int .i64 a0_0) := (blk_cell BK632.out 0).trans rfl
     have hcz19_1 : wc.cell? ⟨gb632, 1, none⟩ = some (.int .i64 a0_1) := (blk_cell BK632.out 1).trans rfl
     have hcz19_2 : wc.cell? ⟨gb632, 2, none⟩ = some (.int .i64 a0_2) := (blk_cell BK632.out 2).trans rfl
     have hcz19_3 : wc.cell? ⟨gb632, 3, none⟩ = some (.int .i64 a0_3) := (blk_cell BK632.out 3).trans rfl
     have hcz19_4 : wc.cell? ⟨gb632, 4, none⟩ = some (.int .i64 a0_4) := (blk_cell BK632.out 4).trans rfl
     have hcz19_5 : wc.cell? ⟨gb632, 5, none⟩ = some (.int .i64 a0_5) := (blk_cell BK632.out 5).trans rfl
     have hcz19_6 : wc.cell? ⟨gb632, 6, none⟩ = some (.slice A0_6 l0_6.length c0_6) := (blk_cell BK632.out 6).trans rfl
     have hcz19_7 : wc.cell? ⟨gb632, 7, none⟩ = some (.slice A0_7 l0_7.length c0_7) := (blk_cell BK632.out 7).trans rfl
     have hcz19_8 : wc.cell? ⟨gb632, 8, none⟩ = some (.slice A0_8 l0_8.length c0_8) := (blk_cell BK632.out 8).trans rfl
     have hcz19_9 : wc.cell? ⟨gb632, 9, none⟩ = some (.slice A0_9 l0_9.length c0_9) := (blk_cell BK632.out 9).trans rfl
     have hfz19_0 := blk_frozen BK632.out 0
     have hfz19_1 := blk_frozen BK632.out 1
     have hfz19_2 := blk_frozen BK632.out 2
     have hfz19_3 := blk_frozen BK632.out 3
     have hfz19_4 := blk_frozen BK632.out 4
     have hfz19_5 := blk_frozen BK632.out 5
     have hfz19_6 := blk_frozen BK632.out 6
     have hfz19_7 := blk_frozen BK632.out 7
     have hfz19_8 := blk_frozen BK632.out 8
     have hfz19_9 := blk_frozen BK632.out 9
     go_upto_region 6 with (first | ((with_reducible refine gate_callee (f := 16) rfl ?_); refine goesL_ (some 25) rfl rfl Try.func16 (by kernel_rfl) rfl #[.agg #[.int .i64 a0_0, .int .i64 a0_1, .int .i64 a0_2, .int .i64 a0_3, .int .i64 a0_4, .int .i64 a0_5, .slice A0_6 l0_6.length c0_6, .slice A0_7 l0_7.length c0_7, .slice A0_8 l0_8.length c0_8, .slice A0_9 l0_9.length c0_9]] rfl (by (try simp only [List.map_toArray, List.map_cons, List.map_nil]); first | done | rfl | (simp only [List.length_drop, List.length_take]; rfl)) ?_; (with_reducible refine (quarrellaw20_Of.calls a0_0 a0_1 a0_2 a0_3 a0_4 a0_5 (fun k_ => k_ < w.heap.size) _ _ l0_6 (fun k_ => k_ < w.heap.size) _ _ l0_7 (fun k_ => k_ < w.heap.size) _ _ l0_8 (fun k_ => k_ < w.heap.size) _ _ l0_9 t635 t636 t637 t638 t639 t640 t641 t644 t647 t650 _ ?side1 ?side2 ?side3 ?side4 A16.out).mono ?_); (case side1 => exact Kd.V_mk HC0_6.out (Kd.F_below (Kd.C_F (Kd.heap_int .i64) HR0_6.out) (by repeat (first | (with_reducible first | exact HB.out | apply below_alloc | apply pw_below_drewN | apply below_drew1 | refine below_set ?_ GE632.out) | exact HB.out)))); (case side2 => exact Kd.V_mk HC0_7.out (Kd.F_below (Kd.C_F (Kd.heap_int .u8) HR0_7.out) (by repeat (first | (with_reducible first | exact HB.out | apply below_alloc | apply pw_below_drewN | apply below_drew1 | refine below_set ?_ GE632.out) | exact HB.out)))); (case side3 => exact Kd.V_mk HC0_8.out (Kd.F_below (Kd.C_F (Kd.heap_slice 61 (Kd.heap_slice 80 k80_heap)) HR0_8.out) (by repeat (first | (with_reducible first | exact HB.out | apply below_alloc | apply pw_below_drewN | apply below_drew1 | refine below_set ?_ GE632.out) | exact HB.out)))); (case side4 => exact Kd.V_mk HC0_9.out (Kd.F_below (Kd.C_F (Kd.heap_int .i64) HR0_9.out) (by repeat (first | (with_reducible first | exact HB.out | apply below_alloc | apply pw_below_drewN | apply below_drew1 | refine below_set ?_ GE632.out) | exact HB.out)))); rintro e w20 ⟨v642, v645, v648, v651, rfl, ho0, ho1, ho2, ho3, hb⟩; refine ⟨_, rfl, ?_⟩; have n0_ := Aside0.mk (Kd.V_lower (Kd.V_mono (ok' := fun k_ => k_ ≠ gb632) ho0 (fun k_ hk_ => Or.elim hk_ (fun hs_ => Or.elim hs_ (fun hs_ => fun e_ => Nat.not_le.2 hs_ (by rw [e_]; exact GW632.out)) (fun hs_ => Or.elim hs_ (fun hs_ => fun e_ => Nat.not_le.2 hs_ (by rw [e_]; exact GW632.out)) (fun hs_ => Or.elim hs_ (fun hs_ => fun e_ => Nat.not_le.2 hs_ (by rw [e_]; exact GW632.out)) (fun hs_ => fun e_ => Nat.not_le.2 hs_ (by rw [e_]; exact GW632.out))))) (fun hn_ => (Kd.freshB (g := gb632) (o := .cells #[.int .i64 a0_0, .int .i64 a0_1, .int .i64 a0_2, .int .i64 a0_3, .int .i64 a0_4, .int .i64 a0_5, .slice A0_6 l0_6.length c0_6, .slice A0_7 l0_7.length c0_7, .slice A0_8 l0_8.length c0_8, .slice A0_9 l0_9.length c0_9] 34 (0, 0)) (by (with_reducible repeat (first | refine blk_drewN ?_ _ | refine blk_drew ?_ | refine blk_alloc ?_ _)); exact BK632.out) k_ hn_)))) (below_size (by repeat (first | (with_reducible first | exact HB.out | apply below_alloc | apply pw_below_drewN | apply below_drew1 | refine below_set ?_ GE632.out) | exact HB.out)))); have n1_ := Aside0.mk (Kd.V_lower (Kd.V_mono (ok' := fun k_ => k_ ≠ gb632) ho1 (fun k_ hk_ => Or.elim hk_ (fun hs_ => Or.elim hs_ (fun hs_ => fun e_ => Nat.not_le.2 hs_ (by rw [e_]; exact GW632.out)) (fun hs_ => Or.elim hs_ (fun hs_ => fun e_ => Nat.not_le.2 hs_ (by rw [e_]; exact GW632.out)) (fun hs_ => Or.elim hs_ (fun hs_ => fun e_ => Nat.not_le.2 hs_ (by rw [e_]; exact GW632.out)) (fun hs_ => fun e_ => Nat.not_le.2 hs_ (by rw [e_]; exact GW632.out))))) (fun hn_ => (Kd.freshB (g := gb632) (o := .cells #[.int .i64 a0_0, .int .i64 a0_1, .int .i64 a0_2, .int .i64 a0_3, .int .i64 a0_4, .int .i64 a0_5, .slice A0_6 l0_6.length c0_6, .slice A0_7 l0_7.length c0_7, .slice A0_8 l0_8.length c0_8, .slice A0_9 l0_9.length c0_9] 34 (0, 0)) (by (with_reducible repeat (first | refine blk_drewN ?_ _ | refine blk_drew ?_ | refine blk_alloc ?_ _)); exact BK632.out) k_ hn_)))) (below_size (by repeat (first | (with_reducible first | exact HB.out | apply below_alloc | apply pw_below_drewN | apply below_drew1 | refine below_set ?_ GE632.out) | exact HB.out)))); have n2_ := Aside0.mk (Kd.V_lower (Kd.V_mono (ok' := fun k_ => k_ ≠ gb632) ho2 (fun k_ hk_ => Or.elim hk_ (fun hs_ => Or.elim hs_ (fun hs_ => fun e_ => Nat.not_le.2 hs_ (by rw [e_]; exact GW632.out)) (fun hs_ => Or.elim hs_ (fun hs_ => fun e_ => Nat.not_le.2 hs_ (by rw [e_]; exact GW632.out)) (fun hs_ => Or.elim hs_ (fun hs_ => fun e_ => Nat.not_le.2 hs_ (by rw [e_]; exact GW632.out)) (fun hs_ => fun e_ => Nat.not_le.2 hs_ (by rw [e_]; exact GW632.out))))) (fun hn_ => (Kd.freshB (g := gb632) (o := .cells #[.int .i64 a0_0, .int .i64 a0_1, .int .i64 a0_2, .int .i64 a0_3, .int .i64 a0_4, .int .i64 a0_5, .slice A0_6 l0_6.length c0_6, .slice A0_7 l0_7.length c0_7, .slice A0_8 l0_8.length c0_8, .slice A0_9 l0_9.length c0_9] 34 (0, 0)) (by (with_reducible repeat (first | refine blk_drewN ?_ _ | refine blk_drew ?_ | refine blk_alloc ?_ _)); exact BK632.out) k_ hn_)))) (below_size (by repeat (first | (with_reducible first | exact HB.out | apply below_alloc | apply pw_below_drewN | apply below_drew1 | refine below_set ?_ GE632.out) | exact HB.out)))); have n3_ := Aside0.mk (Kd.V_lower (Kd.V_mono (ok' := fun k_ => k_ ≠ gb632) ho3 (fun k_ hk_ => Or.elim hk_ (fun hs_ => Or.elim hs_ (fun hs_ => fun e_ => Nat.not_le.2 hs_ (by rw [e_]; exact GW632.out)) (fun hs_ => Or.elim hs_ (fun hs_ => fun e_ => Nat.not_le.2 hs_ (by rw [e_]; exact GW632.out)) (fun hs_ => Or.elim hs_ (fun hs_ => fun e_ => Nat.not_le.2 hs_ (by rw [e_]; exact GW632.out)) (fun hs_ => fun e_ => Nat.not_le.2 hs_ (by rw [e_]; exact GW632.out))))) (fun hn_ => (Kd.freshB (g := gb632) (o := .cells #[.int .i64 a0_0, .int .i64 a0_1, .int .i64 a0_2, .int .i64 a0_3, .int .i64 a0_4, .int .i64 a0_5, .slice A0_6 l0_6.length c0_6, .slice A0_7 l0_7.length c0_7, .slice A0_8 l0_8.length c0_8, .slice A0_9 l0_9.length c0_9] 34 (0, 0)) (by (with_reducible repeat (first | refine blk_drewN ?_ _ | refine blk_drew ?_ | refine blk_alloc ?_ _)); exact BK632.out) k_ hn_)))) (below_size (by repeat (first | (with_reducible first | exact HB.out | apply below_alloc | apply pw_below_drewN | apply below_drew1 | refine below_set ?_ GE632.out) | exact HB.out)))); have n4_ := Aside0.mk (blk_below (g := gb632) (o := .cells #[.int .i64 a0_0, .int .i64 a0_1, .int .i64 a0_2, .int .i64 a0_3, .int .i64 a0_4, .int .i64 a0_5, .slice A0_6 l0_6.length c0_6, .slice A0_7 l0_7.length c0_7, .slice A0_8 l0_8.length c0_8, .slice A0_9 l0_9.length c0_9] 34 (0, 0)) (by (with_reducible repeat (first | refine blk_drewN ?_ _ | refine blk_drew ?_ | refine blk_alloc ?_ _)); exact BK632.out) hb); have n5_ := Aside0.mk (below_step (by repeat (first | (with_reducible first | exact HB.out | apply below_alloc | apply pw_below_drewN | apply below_drew1 | refine below_set ?_ GE632.out) | exact HB.out)) hb); clear BK632; clear HB; have HO643 := n0_; have HO646 := n1_; have HO649 := n2_; have HO652 := n3_; have BK632 := n4_; have HB := n5_; clear n0_ n1_ n2_ n3_ n4_ n5_; (try clear hb); (try clear hb2); (try clear hk); (try clear hi); (try clear ho0); (try clear ho1); (try clear ho2); (try clear ho3); obtain ⟨Ao21, co21, eo21⟩ := Kd.V_slice HO643.out; subst eo21; obtain ⟨Ao22, co22, eo22⟩ := Kd.V_slice HO646.out; subst eo22; obtain ⟨Ao23, co23, eo23⟩ := Kd.V_slice HO649.out; subst eo23; obtain ⟨Ao24, co24, eo24⟩ := Kd.V_slice HO652.out; subst eo24) | ((with_reducible refine gate_callee (f := 15) rfl ?_); refine goesL_ (some 26) rfl rfl Try.func15 (by kernel_rfl) rfl #[.agg #[.int .i64 t635, .int .i64 t636, .int .i64 t637, .int .i64 t638, .int .i64 t639, .int .i64 t640, .slice Ao21 t641.length co21, .slice Ao22 t644.length co22, .slice Ao23 t647.length co23, .slice Ao24 t650.length co24]] rfl (by (try simp only [List.map_toArray, List.map_cons, List.map_nil]); first | done | rfl | (simp only [List.length_drop, List.length_take]; rfl)) ?_; (with_reducible refine (script_Put.calls kj5 t635 t636 t637 t638 t639 t640 _ _ t641 _ _ t644 _ _ t647 _ _ t650 t653 t656 _ ?side1 ?side2 ?side3 ?side4 ?side5 ?side6 ?side7 ?side8 A17.out).mono ?_); (case side1 => repeat (first | exact (Kd.V_reads' HO643.out).2.2 | (with_reducible refine Kd.C_alloc ?_ _) | (with_reducible refine Kd.C_drewN ?_ _) | (with_reducible refine Kd.C_drew ?_))); (case side2 => exact (Kd.V_reads' HO643.out).2.1); (case side3 => repeat (first | exact (Kd.V_reads' HO646.out).2.2 | (with_reducible refine Kd.C_alloc ?_ _) | (with_reducible refine Kd.C_drewN ?_ _) | (with_reducible refine Kd.C_drew ?_))); (case side4 => exact (Kd.V_reads' HO646.out).2.1); (case side5 => repeat (first | exact (Kd.V_reads' HO649.out).2.2 | (with_reducible refine Kd.C_alloc ?_ _) | (with_reducible refine Kd.C_drewN ?_ _) | (with_reducible refine Kd.C_drew ?_))); (case side6 => exact (Kd.V_reads' HO649.out).2.1); (case side7 => repeat (first | exact (Kd.V_reads' HO652.out).2.2 | (with_reducible refine Kd.C_alloc ?_ _) | (with_reducible refine Kd.C_drewN ?_ _) | (with_reducible refine Kd.C_drew ?_))); (case side8 => exact (Kd.V_reads' HO652.out).2.1); rintro e w25 ⟨v654, rfl, ho0, hb⟩; refine ⟨_, rfl, ?_⟩; have n0_ := Aside0.mk (Kd.V_elder' (by (with_reducible repeat (first | apply Kd.V_alloc | apply Kd.V_drewN | apply Kd.V_drew)); exact HO643.out) (Kd.R_base ho0) hb); have n1_ := Aside0.mk (Kd.V_elder' (by (with_reducible repeat (first | apply Kd.V_alloc | apply Kd.V_drewN | apply Kd.V_drew)); exact HO646.out) (Kd.R_base ho0) hb); have n2_ := Aside0.mk (Kd.V_elder' (by (with_reducible repeat (first | apply Kd.V_alloc | apply Kd.V_drewN | apply Kd.V_drew)); exact HO649.out) (Kd.R_base ho0) hb); have n3_ := Aside0.mk (Kd.V_elder' (by (with_reducible repeat (first | apply Kd.V_alloc | apply Kd.V_drewN | apply Kd.V_drew)); exact HO652.out) (Kd.R_base ho0) hb); have n4_ := Aside0.mk (Kd.R_lower ho0 (below_size (by repeat (first | (with_reducible first | exact HB.out | apply below_alloc | apply pw_below_drewN | apply below_drew1 | refine below_set ?_ GE632.out) | exact HB.out)))); have n5_ := Aside0.mk (blk_below (g := gb632) (o := .cells #[.int .i64 a0_0, .int .i64 a0_1, .int .i64 a0_2, .int .i64 a0_3, .int .i64 a0_4, .int .i64 a0_5, .slice A0_6 l0_6.length c0_6, .slice A0_7 l0_7.length c0_7, .slice A0_8 l0_8.length c0_8, .slice A0_9 l0_9.length c0_9] 34 (0, 0)) (by (with_reducible repeat (first | refine blk_drewN ?_ _ | refine blk_drew ?_ | refine blk_alloc ?_ _)); exact BK632.out) hb); have n6_ := Aside0.mk (below_step (by repeat (first | (with_reducible first | exact HB.out | apply below_alloc | apply pw_below_drewN | apply below_drew1 | refine below_set ?_ GE632.out) | exact HB.out)) hb); clear HO643; clear HO646; clear HO649; clear HO652; clear BK632; clear HB; have HO643 := n0_; have HO646 := n1_; have HO649 := n2_; have HO652 := n3_; have HO655 := n4_; have BK632 := n5_; have HB := n6_; clear n0_ n1_ n2_ n3_ n4_ n5_ n6_; (try clear hb); (try clear hb2); (try clear hk); (try clear hi); (try clear ho0)))
     (try simp only [Act.put, List.setIfInBounds_toArray, List.set_cons_zero, List.set_cons_succ])
     go_cut [35] (fun v35 wc => ∃ (kq : Nat) (x35_17 : Bool), v35 = .bool x35_17 ∧ Aside0 (quarrellaw20_ScriptSpoilt.j1 kq a1 l2 t653 t656 x35_17 a0_0 a0_1 a0_2 a0_3 a0_4 a0_5 l0_6 l0_7 l0_8 l0_9 = some r) ∧ Aside0 (kq ≤ kj5) ∧ Aside0 (Kd.R (Kd.int .u8) 5 wc w.heap.size (fun _ => True) v654 t653) ∧ Aside0 (wc.heap[gb632]? = some (.cells #[.int .i64 a0_0, .int .i64 a0_1, .int .i64 a0_2, .int .i64 a0_3, .int .i64 a0_4, .int .i64 a0_5, (.slice A0_6 l0_6.length c0_6), (.slice A0_7 l0_7.length c0_7), (.slice A0_8 l0_8.length c0_8), (.slice A0_9 l0_9.length c0_9)] 34 (0, 0))) ∧ Aside0 (Below w.heap.size w wc))
     case first =>
      have H := HC18.out
      clear HC18
      by_cases c26 : t656 = 0
      ·rw [if_pos c26] at H
       have c26b0 : (t656 == 0) = true := beq_iff_eq.mpr c26
       have c26b1 : (t656 != 0) = false := bne_eq_false_iff_eq.mpr c26
       clear c26
       (first | rw [c26b0] | (simp only [i64_w, i32_w]; rw [c26b0]) | skip)
       have H' := Aside0.mk H
       clear H
       obtain ⟨Ao27, co27, eo27⟩ := Kd.R_slice HO655.out
       subst eo27
       go_wp2
       go_meet
       case rel => exact ⟨_, (decide ((t653.length : Int) < 7)), (by first | rfl | (simp; done) | (simp [*]; done)), H', ⟨by have := HJ5.out; first | omega | exact Nat.le_refl _⟩, ⟨by (with_reducible repeat (first | apply Kd.R_alloc | apply Kd.R_drewN | apply Kd.R_drew)); exact HO655.out⟩, ⟨by (with_reducible repeat (first | refine blk_drewN ?_ _ | refine blk_drew ?_ | refine blk_alloc ?_ _)); exact BK632.out⟩, ⟨by repeat (first | (with_reducible first | exact HB.out | apply below_alloc | apply pw_below_drewN | apply below_drew1 | refine below_set ?_ GE632.out) | exact HB.out)⟩⟩
      ·rw [if_neg c26] at H
       have c26b0 : (t656 == 0) = false := beq_eq_false_iff_ne.mpr c26
       have c26b1 : (t656 != 0) = true := bne_iff_ne.mpr c26
       (first | rw [c26b0] | (simp only [i64_w, i32_w]; rw [c26b0]) | skip)
       have H' := Aside0.mk H
       clear H
       go_wp2
       go_meet
       case rel => exact ⟨_, (true), (by first | rfl | (simp; done) | (simp [*]; done)), H', ⟨by have := HJ5.out; first | omega | exact Nat.le_refl _⟩, ⟨by (with_reducible repeat (first | apply Kd.R_alloc | apply Kd.R_drewN | apply Kd.R_drew)); exact HO655.out⟩, ⟨by (with_reducible repeat (first | refine blk_drewN ?_ _ | refine blk_drew ?_ | refine blk_alloc ?_ _)); exact BK632.out⟩, ⟨by repeat (first | (with_reducible first | exact HB.out | apply below_alloc | apply pw_below_drewN | apply below_drew1 | refine below_set ?_ GE632.out) | exact HB.out)⟩⟩
     case rest =>
      clear HC18
      try clear c1
      try clear c2
      try clear p2
      try clear c5
      try clear c8
      try clear c9
      try clear c10
      try clear c13
      try clear c15
      try clear c16
      try clear c26
      try clear c26b0
      try clear c26b1
      try clear hcz11_0
      try clear hcz11_1
      try clear hcz11_2
      try clear hcz11_3
      try clear hcz11_4
      try clear hcz11_5
      try clear hcz11_6
      try clear hcz11_7
      try clear hcz11_8
      try clear hcz11_9
      try clear hcz13_0
      try clear hcz13_1
      try clear hcz13_2
      try clear hcz13_3
      try clear hcz13_4
      try clear hcz13_5
      try clear hcz13_6
      try clear hcz13_7
      try clear hcz13_8
      try clear hcz13_9
      try clear hcz19_0
      try clear hcz19_1
      try clear hcz19_2
      try clear hcz19_3
      try clear hcz19_4
      try clear hcz19_5
      try clear hcz19_6
      try clear hcz19_7
      try clear hcz19_8
      try clear hcz19_9
      try clear hfz11_0
      try clear hfz11_1
      try clear hfz11_2
      try clear hfz11_3
      try clear hfz11_4
      try clear hfz11_5
      try clear hfz11_6
      try clear hfz11_7
      try clear hfz11_8
      try clear hfz11_9
      try clear hfz13_0
      try clear hfz13_1
      try clear hfz13_2
      try clear hfz13_3
      try clear hfz13_4
      try clear hfz13_5
      try clear hfz13_6
      try clear hfz13_7
      try clear hfz13_8
      try clear hfz13_9
      try clear hfz19_0
      try clear hfz19_1
      try clear hfz19_2
      try clear hfz19_3
      try clear hfz19_4
      try clear hfz19_5
      try clear hfz19_6
      try clear hfz19_7
      try clear hfz19_8
      try clear hfz19_9
      try clear p2
      obtain ⟨kq, x35_17, rfl, HA, HJ17, HO_7, BK632, HB⟩ := hcut
      cases kq with
      | zero => exact absurd HA.out (by simp [quarrellaw20_ScriptSpoilt.j1])
      | succ kj17 =>
       have H := HA.out
       clear HA
       simp only [quarrellaw20_ScriptSpoilt.j1] at H
       by_cases c28 : x35_17 = true
       ·subst c28
        have H1 : (some (t656 == 1)) = some r := by rw [if_pos rfl] at H; exact H
        clear H
        have H := H1
        clear H1
        obtain rfl := Option.some.inj H
        go_wp2
        go_ret
        exact ⟨by first | rfl | (simp [errW_none, errW_some] <;> rfl) | (simp [*, errW_none, errW_some] <;> rfl), by repeat (first | (with_reducible first | exact HB.out | apply below_alloc | apply pw_below_drewN | apply below_drew1 | refine below_set ?_ GE632.out) | exact HB.out)⟩
       ·replace c28 := Bool.eq_false_iff.mpr c28
        subst c28
        have H1 : (if t653.length + l2.length < 140737488355328 then ((some (t653 ++ l2 : List Int)).bind fun y657 => (if (Int.tmod a1 6) = 0 then (if 0 < (y657.length : Int) then (quarrellaw20_ScriptSpoilt.j2 kj17 (y657.set (0 : Int).toNat 9) 2 0) else (none)) else (if (Int.tmod a1 6) = 1 then (if 1 < (y657.length : Int) then (quarrellaw20_ScriptSpoilt.j2 kj17 (y657.set (1 : Int).toNat 0) 2 0) else (none)) else (if (Int.tmod a1 6) = 2 then (if 2 < (y657.length : Int) then (if 3 < (y657.length : Int) then (quarrellaw20_ScriptSpoilt.j2 kj17 ((y657.set (2 : Int).toNat 16).set (3 : Int).toNat 1) 2 0) else (none)) else (none)) else (if (Int.tmod a1 6) = 3 then (if 5 < (y657.length : Int) then (quarrellaw20_ScriptSpoilt.j2 kj17 (y657.set (5 : Int).toNat 5) 2 0) else (none)) else (if (Int.tmod a1 6) = 4 then (if 6 < (y657.length : Int) then (quarrellaw20_ScriptSpoilt.j2 kj17 (y657.set (6 : Int).toNat 65) 2 0) else (none)) else (if (Int.tmod a1 6) = 5 then (if 2 < (y657.length : Int) then (if 3 < (y657.length : Int) then (quarrellaw20_ScriptSpoilt.j2 kj17 ((y657.set (2 : Int).toNat 0).set (3 : Int).toNat ((wrap64 ((wrap64 (2 * a0_0)) - 1)) % 256)) 4 2) else (none)) else (none)) else (quarrellaw20_ScriptSpoilt.j2 kj17 y657 2 0)))))))) else (none)) = some r := by rw [if_neg (show ¬ (false = true) by decide)] at H; exact H
        clear H
        have H := H1
        clear H1
        by_cases c29 : t653.length + l2.length < 140737488355328
        ·rw [if_pos c29] at H
         have LMc29 := Aside0.mk c29
         clear c29
         obtain ⟨y657, hy657⟩ : ∃ y_ : List Int, y_ = (t653 ++ l2) := ⟨_, rfl⟩
         replace H : (if (Int.tmod a1 6) = 0 then (if 0 < (y657.length : Int) then (quarrellaw20_ScriptSpoilt.j2 kj17 (y657.set (0 : Int).toNat 9) 2 0) else (none)) else (if (Int.tmod a1 6) = 1 then (if 1 < (y657.length : Int) then (quarrellaw20_ScriptSpoilt.j2 kj17 (y657.set (1 : Int).toNat 0) 2 0) else (none)) else (if (Int.tmod a1 6) = 2 then (if 2 < (y657.length : Int) then (if 3 < (y657.length : Int) then (quarrellaw20_ScriptSpoilt.j2 kj17 ((y657.set (2 : Int).toNat 16).set (3 : Int).toNat 1) 2 0) else (none)) else (none)) else (if (Int.tmod a1 6) = 3 then (if 5 < (y657.length : Int) then (quarrellaw20_ScriptSpoilt.j2 kj17 (y657.set (5 : Int).toNat 5) 2 0) else (none)) else (if (Int.tmod a1 6) = 4 then (if 6 < (y657.length : Int) then (quarrellaw20_ScriptSpoilt.j2 kj17 (y657.set (6 : Int).toNat 65) 2 0) else (none)) else (if (Int.tmod a1 6) = 5 then (if 2 < (y657.length : Int) then (if 3 < (y657.length : Int) then (quarrellaw20_ScriptSpoilt.j2 kj17 ((y657.set (2 : Int).toNat 0).set (3 : Int).toNat ((wrap64 ((wrap64 (2 * a0_0)) - 1)) % 256)) 4 2) else (none)) else (none)) else (quarrellaw20_ScriptSpoilt.j2 kj17 y657 2 0))))))) = some r := by first | (rw [hy657]; with_reducible exact H) | (have H2_ := (Option.bind_some _ _).symm.trans H; rw [hy657]; with_reducible exact H2_) | (have H2_ := (Option.bind_some _ _).symm.trans H; with_reducible exact H2_) | with_reducible exact H | (rw [hy657]; exact H) | exact H
         have Ny657 := Aside0.mk hy657
         clear hy657
         have HC30 := Aside0.mk H
         clear H
         go_upto_block 0 with (first | ((with_reducible refine gate_builtin (b := .append) (xs := #[.tmp 38, .tmp 39]) rfl ?_); (try (refine gate_guard (by rfl) ?_; dsimp only)); at_builtin; refine Kd.R_append_rows (Kd.int .u8) (w0 := w) w.heap.size rfl (.tmp 38) (.tmp 39) 22 5 (.int .u8 0) 1 rfl Try.underlying22 info5 rfl (by decide) (by omega) v654 t653 l2 _ _ _ (fun _ => True) (fun _ => False) rfl rfl ?aO ?aR (fun _ _ h => h) (fun _ h => h.elim) ?aF ?aB ?aS ?aL ?_; (case aR => repeat (first | exact (Kd.C_below HR2.out HB.out) | (with_reducible refine Kd.C_alloc ?_ _) | (with_reducible refine Kd.C_drewN ?_ _) | (with_reducible refine Kd.C_drew ?_))); (case aB => exact (by repeat (first | (with_reducible first | exact HB.out | apply below_alloc | apply pw_below_drewN | apply below_drew1 | refine below_set ?_ GE632.out) | exact HB.out))); (case aF => exact (fun _ _ => trivial)); (case aO => exact (by (with_reducible repeat (first | apply Kd.R_alloc | apply Kd.R_drewN | apply Kd.R_drew)); exact HO_7.out)); (case aS => exact (below_size (by repeat (first | (with_reducible first | exact HB.out | apply below_alloc | apply pw_below_drewN | apply below_drew1 | refine below_set ?_ GE632.out) | exact HB.out)))); (case aL => have := LMc29.out; omega); intro v658 w31 ho hb hg hat; rw [← Ny657.out] at ho; have n0_ := Aside0.mk (blk_grown (g := gb632) (o := .cells #[.int .i64 a0_0, .int .i64 a0_1, .int .i64 a0_2, .int .i64 a0_3, .int .i64 a0_4, .int .i64 a0_5, .slice A0_6 l0_6.length c0_6, .slice A0_7 l0_7.length c0_7, .slice A0_8 l0_8.length c0_8, .slice A0_9 l0_9.length c0_9] 34 (0, 0)) (by (with_reducible repeat (first | refine blk_drewN ?_ _ | refine blk_drew ?_ | refine blk_alloc ?_ _)); exact BK632.out) hg (Kd.R_ne HO_7.out BK632.out (by decide))); have n1_ := Aside0.mk (hb); have n2_ := Aside0.mk (ho); clear BK632; clear HB; clear HO_7; have BK632 := n0_; have HB := n1_; have HO659 := n2_; clear n0_ n1_ n2_; clear ho hb hg hat))
         (try simp only [Act.put, List.setIfInBounds_toArray, List.set_cons_zero, List.set_cons_succ])
         go_cut [9, 10] (fun v9 v10 wc => ∃ (kq : Nat) (x7_29 : List Int) (x9_29 : Int) (x10_29 : Int), v9 = .int .i64 x9_29 ∧ v10 = .int .i64 x10_29 ∧ Aside0 (quarrellaw20_ScriptSpoilt.j2 kq x7_29 x9_29 x10_29 = some r) ∧ Aside0 (kq ≤ kj17) ∧ Aside0 (Kd.R (Kd.int .u8) 5 wc w.heap.size (fun _ => True) v658 x7_29) ∧ Aside0 (wc.heap[gb632]? = some (.cells #[.int .i64 a0_0, .int .i64 a0_1, .int .i64 a0_2, .int .i64 a0_3, .int .i64 a0_4, .int .i64 a0_5, (.slice A0_6 l0_6.length c0_6), (.slice A0_7 l0_7.length c0_7), (.slice A0_8 l0_8.length c0_8), (.slice A0_9 l0_9.length c0_9)] 34 (0, 0))) ∧ Aside0 (Below w.heap.size w wc))
         case first =>
          have H := HC30.out
          clear HC30
          by_cases c32 : (Int.tmod a1 6) = 0
          ·rw [if_pos c32] at H
           have c32b0 : ((Int.tmod a1 6) == 0) = true := beq_iff_eq.mpr c32
           have c32b1 : ((Int.tmod a1 6) != 0) = false := bne_eq_false_iff_eq.mpr c32
           clear c32
           (first | rw [c32b0] | (simp only [i64_w, i32_w]; rw [c32b0]) | skip)
           by_cases c33 : 0 < (y657.length : Int)
           ·rw [if_pos c33] at H
            have c33b0 : decide (0 < (y657.length : Int)) = true := decide_eq_true c33
            have c33b1 : decide (0 < y657.length) = true := decide_eq_true (by omega)
            clear c33
            obtain ⟨y660, hy660⟩ : ∃ y_ : List Int, y_ = (y657.set (0 : Int).toNat 9) := ⟨_, rfl⟩
            replace H : (quarrellaw20_ScriptSpoilt.j2 kj17 y660 2 0) = some r := by first | (rw [hy660]; with_reducible exact H) | (have H2_ := (Option.bind_some _ _).symm.trans H; rw [hy660]; with_reducible exact H2_) | (have H2_ := (Option.bind_some _ _).symm.trans H; with_reducible exact H2_) | with_reducible exact H | (rw [hy660]; exact H) | exact H
            have Ny660 := Aside0.mk hy660
            clear hy660
            have H' := Aside0.mk H
            clear H
            have p34 : 0 ≤ (0 : Int) := (by omega)
            have q34 : (0 : Int) < ((y657.length : Int) : Int) := of_decide_eq_true (by first | (with_reducible assumption) | assumption)
            have qi34 : (0 < y657.length) = True := eq_true (by omega)
            obtain ⟨go34, co34, eo34, gb34, gl34, cl34, HG34⟩ := Kd.R_form HO659.out (by omega)
            (first | cases eo34 | (injection eo34 with ea_ en_ ec_; (first | subst ea_ | (injection ea_ with ea_; subst ea_)); subst ec_; clear en_))
            have GB34 := Aside0.mk gb34
            have GG34 := Aside0.mk HG34
            clear gb34 gl34 HG34
            obtain ⟨hx34_0, hf34_0⟩ := Kd.R_celln 0 HO659.out (0 : Int) p34 q34
            (try rw [show ((0 : Int)).toNat = 0 from rfl] at hx34_0)
            (try simp only [Nat.reduceMul, Nat.zero_mul, Nat.zero_add, Nat.reduceAdd] at hx34_0)
            (try rw [show ((0 : Int)).toNat = 0 from rfl] at hf34_0)
            (try simp only [Nat.reduceMul, Nat.zero_mul, Nat.zero_add, Nat.reduceAdd] at hf34_0)
            replace p34 := eq_true p34
            replace q34 := eq_true q34
            have HP35 := Kd.R_putg HO659.out (0 : Int) 9
            go_wp2_with (first | ((with_reducible refine gate_store (t := 5) (p := 46) rfl ?_); refine store_event (t := 5) (p := 46) (v := ?vo_w36) (w1 := (w31.setCell ⟨go34, (0 : Int).toNat, none⟩ (.int .u8 9))) ?hg ?ho ?hn ?hr ?_; (case ho => rfl); (case hg => rfl); (case hn => rfl); (case hr => first | (go_simp; done) | (go_simp; rfl)); intro w36 hw; have hg : w31.grownBy w36 (some go34) := (by rw [hw]; exact HP35.2); have hp_ : Kd.R (Kd.int .u8) 5 w36 w.heap.size (fun _ => True) (.slice (some ⟨go34, 0, none⟩) y657.length co34) y660 := (by rw [hw, Ny660.out]; exact HP35.1); clear HP35; have n0_ := Aside0.mk (blk_grown (g := gb632) (o := .cells #[.int .i64 a0_0, .int .i64 a0_1, .int .i64 a0_2, .int .i64 a0_3, .int .i64 a0_4, .int .i64 a0_5, .slice A0_6 l0_6.length c0_6, .slice A0_7 l0_7.length c0_7, .slice A0_8 l0_8.length c0_8, .slice A0_9 l0_9.length c0_9] 34 (0, 0)) (by (with_reducible repeat (first | refine blk_drewN ?_ _ | refine blk_drew ?_ | refine blk_alloc ?_ _)); exact BK632.out) hg (Kd.R_ne HO659.out BK632.out (by decide))); have n1_ := Aside0.mk (hp_); have n2_ := Aside0.mk ((by rw [hw]; exact below_set (HB.out) GB34.out : Below w.heap.size w w36)); clear BK632; clear HO659; clear HB; have BK632 := n0_; have HO659 := n1_; have HB := n2_; clear n0_ n1_ n2_; clear hg hw hp_))
            go_meet
            case rel => exact ⟨_, (y660), (2), (0), (by first | rfl | (simp; done) | (simp [*]; done)), (by first | rfl | (simp; done) | (simp [*]; done)), H', ⟨by have := HJ5.out; have := HJ17.out; first | omega | exact Nat.le_refl _⟩, ⟨by (with_reducible repeat (first | apply Kd.R_alloc | apply Kd.R_drewN | apply Kd.R_drew)); exact HO659.out⟩, ⟨by (with_reducible repeat (first | refine blk_drewN ?_ _ | refine blk_drew ?_ | refine blk_alloc ?_ _)); exact BK632.out⟩, ⟨by repeat (first | (with_reducible first | exact HB.out | apply below_alloc | apply pw_below_drewN | apply below_drew1 | refine below_set ?_ GE632.out) | exact HB.out)⟩⟩
           ·rw [if_neg c33] at H
            exact absurd H (by simp)
          ·rw [if_neg c32] at H
           have c32b0 : ((Int.tmod a1 6) == 0) = false := beq_eq_false_iff_ne.mpr c32
           have c32b1 : ((Int.tmod a1 6) != 0) = true := bne_iff_ne.mpr c32
           (first | rw [c32b0] | (simp only [i64_w, i32_w]; rw [c32b0]) | skip)
           by_cases c37 : (Int.tmod a1 6) = 1
           ·rw [if_pos c37] at H
            have c37b0 : ((Int.tmod a1 6) == 1) = true := beq_iff_eq.mpr c37
            have c37b1 : ((Int.tmod a1 6) != 1) = false := bne_eq_false_iff_eq.mpr c37
            clear c37
            by_cases c38 : 1 < (y657.length : Int)
            ·rw [if_pos c38] at H
             have c38b0 : decide (1 < (y657.length : Int)) = true := decide_eq_true c38
             have c38b1 : decide (1 < y657.length) = true := decide_eq_true (by omega)
             clear c38
             obtain ⟨y661, hy661⟩ : ∃ y_ : List Int, y_ = (y657.set (1 : Int).toNat 0) := ⟨_, rfl⟩
             replace H : (quarrellaw20_ScriptSpoilt.j2 kj17 y661 2 0) = some r := by first | (rw [hy661]; with_reducible exact H) | (have H2_ := (Option.bind_some _ _).symm.trans H; rw [hy661]; with_reducible exact H2_) | (have H2_ := (Option.bind_some _ _).symm.trans H; with_reducible exact H2_) | with_reducible exact H | (rw [hy661]; exact H) | exact H
             have Ny661 := Aside0.mk hy661
             clear hy661
             have H' := Aside0.mk H
             clear H
             have p39 : 0 ≤ (1 : Int) := (by omega)
             have q39 : (1 : Int) < ((y657.length : Int) : Int) := of_decide_eq_true (by first | (with_reducible assumption) | assumption)
             have qi39 : (1 < y657.length) = True := eq_true (by omega)
             obtain ⟨go39, co39, eo39, gb39, gl39, cl39, HG39⟩ := Kd.R_form HO659.out (by omega)
             (first | cases eo39 | (injection eo39 with ea_ en_ ec_; (first | subst ea_ | (injection ea_ with ea_; subst ea_)); subst ec_; clear en_))
             have GB39 := Aside0.mk gb39
             have GG39 := Aside0.mk HG39
             clear gb39 gl39 HG39
             obtain ⟨hx39_0, hf39_0⟩ := Kd.R_celln 0 HO659.out (1 : Int) p39 q39
             (try rw [show ((1 : Int)).toNat = 1 from rfl] at hx39_0)
             (try simp only [Nat.reduceMul, Nat.zero_mul, Nat.zero_add, Nat.reduceAdd] at hx39_0)
             (try rw [show ((1 : Int)).toNat = 1 from rfl] at hf39_0)
             (try simp only [Nat.reduceMul, Nat.zero_mul, Nat.zero_add, Nat.reduceAdd] at hf39_0)
             replace p39 := eq_true p39
             replace q39 := eq_true q39
             have HP40 := Kd.R_putg HO659.out (1 : Int) 0
             go_wp2_with (first | ((with_reducible refine gate_store (t := 5) (p := 50) rfl ?_); refine store_event (t := 5) (p := 50) (v := ?vo_w41) (w1 := (w31.setCell ⟨go39, (1 : Int).toNat, none⟩ (.int .u8 0))) ?hg ?ho ?hn ?hr ?_; (case ho => rfl); (case hg => rfl); (case hn => rfl); (case hr => first | (go_simp; done) | (go_simp; rfl)); intro w41 hw; have hg : w31.grownBy w41 (some go39) := (by rw [hw]; exact HP40.2); have hp_ : Kd.R (Kd.int .u8) 5 w41 w.heap.size (fun _ => True) (.slice (some ⟨go39, 0, none⟩) y657.length co39) y661 := (by rw [hw, Ny661.out]; exact HP40.1); clear HP40; have n0_ := Aside0.mk (blk_grown (g := gb632) (o := .cells #[.int .i64 a0_0, .int .i64 a0_1, .int .i64 a0_2, .int .i64 a0_3, .int .i64 a0_4, .int .i64 a0_5, .slice A0_6 l0_6.length c0_6, .slice A0_7 l0_7.length c0_7, .slice A0_8 l0_8.length c0_8, .slice A0_9 l0_9.length c0_9] 34 (0, 0)) (by (with_reducible repeat (first | refine blk_drewN ?_ _ | refine blk_drew ?_ | refine blk_alloc ?_ _)); exact BK632.out) hg (Kd.R_ne HO659.out BK632.out (by decide))); have n1_ := Aside0.mk (hp_); have n2_ := Aside0.mk ((by rw [hw]; exact below_set (HB.out) GB39.out : Below w.heap.size w w41)); clear BK632; clear HO659; clear HB; have BK632 := n0_; have HO659 := n1_; have HB := n2_; clear n0_ n1_ n2_; clear hg hw hp_))
             go_meet
             case rel => exact ⟨_, (y661), (2), (0), (by first | rfl | (simp; done) | (simp [*]; done)), (by first | rfl | (simp; done) | (simp [*]; done)), H', ⟨by have := HJ5.out; have := HJ17.out; first | omega | exact Nat.le_refl _⟩, ⟨by (with_reducible repeat (first | apply Kd.R_alloc | apply Kd.R_drewN | apply Kd.R_drew)); exact HO659.out⟩, ⟨by (with_reducible repeat (first | refine blk_drewN ?_ _ | refine blk_drew ?_ | refine blk_alloc ?_ _)); exact BK632.out⟩, ⟨by repeat (first | (with_reducible first | exact HB.out | apply below_alloc | apply pw_below_drewN | apply below_drew1 | refine below_set ?_ GE632.out) | exact HB.out)⟩⟩
            ·rw [if_neg c38] at H
             exact absurd H (by simp)
           ·rw [if_neg c37] at H
            have c37b0 : ((Int.tmod a1 6) == 1) = false := beq_eq_false_iff_ne.mpr c37
            have c37b1 : ((Int.tmod a1 6) != 1) = true := bne_iff_ne.mpr c37
            by_cases c42 : (Int.tmod a1 6) = 2
            ·rw [if_pos c42] at H
             have c42b0 : ((Int.tmod a1 6) == 2) = true := beq_iff_eq.mpr c42
             have c42b1 : ((Int.tmod a1 6) != 2) = false := bne_eq_false_iff_eq.mpr c42
             clear c42
             by_cases c43 : 2 < (y657.length : Int)
             ·rw [if_pos c43] at H
              have c43b0 : decide (2 < (y657.length : Int)) = true := decide_eq_true c43
              have c43b1 : decide (2 < y657.length) = true := decide_eq_true (by omega)
              clear c43
              obtain ⟨y662, hy662⟩ : ∃ y_ : List Int, y_ = (y657.set (2 : Int).toNat 16) := ⟨_, rfl⟩
              replace H : (if 3 < (y657.length : Int) then (quarrellaw20_ScriptSpoilt.j2 kj17 (y662.set (3 : Int).toNat 1) 2 0) else (none)) = some r := by first | (rw [hy662]; with_reducible exact H) | (have H2_ := (Option.bind_some _ _).symm.trans H; rw [hy662]; with_reducible exact H2_) | (have H2_ := (Option.bind_some _ _).symm.trans H; with_reducible exact H2_) | with_reducible exact H | (rw [hy662]; exact H) | exact H
              have Ny662 := Aside0.mk hy662
              clear hy662
              by_cases c45 : 3 < (y657.length : Int)
              ·rw [if_pos c45] at H
               have c45b0 : decide (3 < (y657.length : Int)) = true := decide_eq_true c45
               have c45b1 : decide (3 < y657.length) = true := decide_eq_true (by omega)
               clear c45
               obtain ⟨y663, hy663⟩ : ∃ y_ : List Int, y_ = (y662.set (3 : Int).toNat 1) := ⟨_, rfl⟩
               replace H : (quarrellaw20_ScriptSpoilt.j2 kj17 y663 2 0) = some r := by first | (rw [hy663]; with_reducible exact H) | (have H2_ := (Option.bind_some _ _).symm.trans H; rw [hy663]; with_reducible exact H2_) | (have H2_ := (Option.bind_some _ _).symm.trans H; with_reducible exact H2_) | with_reducible exact H | (rw [hy663]; exact H) | exact H
               have Ny663 := Aside0.mk hy663
               clear hy663
               have H' := Aside0.mk H
               clear H
               have p44 : 0 ≤ (2 : Int) := (by omega)
               have q44 : (2 : Int) < ((y657.length : Int) : Int) := of_decide_eq_true (by first | (with_reducible assumption) | assumption)
               have qi44 : (2 < y657.length) = True := eq_true (by omega)
               obtain ⟨go44, co44, eo44, gb44, gl44, cl44, HG44⟩ := Kd.R_form HO659.out (by omega)
               (first | cases eo44 | (injection eo44 with ea_ en_ ec_; (first | subst ea_ | (injection ea_ with ea_; subst ea_)); subst ec_; clear en_))
               have GB44 := Aside0.mk gb44
               have GG44 := Aside0.mk HG44
               clear gb44 gl44 HG44
               obtain ⟨hx44_0, hf44_0⟩ := Kd.R_celln 0 HO659.out (2 : Int) p44 q44
               (try rw [show ((2 : Int)).toNat = 2 from rfl] at hx44_0)
               (try simp only [Nat.reduceMul, Nat.zero_mul, Nat.zero_add, Nat.reduceAdd] at hx44_0)
               (try rw [show ((2 : Int)).toNat = 2 from rfl] at hf44_0)
               (try simp only [Nat.reduceMul, Nat.zero_mul, Nat.zero_add, Nat.reduceAdd] at hf44_0)
               replace p44 := eq_true p44
               replace q44 := eq_true q44
               have HP47 := Kd.R_putg HO659.out (2 : Int) 16
               go_wp2_with (first | ((with_reducible refine gate_store (t := 5) (p := 55) rfl ?_); refine store_event (t := 5) (p := 55) (v := ?vo_w48) (w1 := (w31.setCell ⟨go44, (2 : Int).toNat, none⟩ (.int .u8 16))) ?hg ?ho ?hn ?hr ?_; (case ho => rfl); (case hg => rfl); (case hn => rfl); (case hr => first | (go_simp; done) | (go_simp; rfl)); intro w48 hw; have hg : w31.grownBy w48 (some go44) := (by rw [hw]; exact HP47.2); have hp_ : Kd.R (Kd.int .u8) 5 w48 w.heap.size (fun _ => True) (.slice (some ⟨go44, 0, none⟩) y657.length co44) y662 := (by rw [hw, Ny662.out]; exact HP47.1); clear HP47; have n0_ := Aside0.mk (blk_grown (g := gb632) (o := .cells #[.int .i64 a0_0, .int .i64 a0_1, .int .i64 a0_2, .int .i64 a0_3, .int .i64 a0_4, .int .i64 a0_5, .slice A0_6 l0_6.length c0_6, .slice A0_7 l0_7.length c0_7, .slice A0_8 l0_8.length c0_8, .slice A0_9 l0_9.length c0_9] 34 (0, 0)) (by (with_reducible repeat (first | refine blk_drewN ?_ _ | refine blk_drew ?_ | refine blk_alloc ?_ _)); exact BK632.out) hg (Kd.R_ne HO659.out BK632.out (by decide))); have n1_ := Aside0.mk (hp_); have n2_ := Aside0.mk ((by rw [hw]; exact below_set (HB.out) GB44.out : Below w.heap.size w w48)); clear BK632; clear HO659; clear HB; have BK632 := n0_; have HO659 := n1_; have HB := n2_; clear n0_ n1_ n2_; clear hg hw hp_; have p46 : 0 ≤ (3 : Int) := (by omega); have q46 : (3 : Int) < ((y657.length : Int) : Int) := of_decide_eq_true (by first | (with_reducible assumption) | assumption); have qi46 : (3 < y657.length) = True := eq_true (by omega); obtain ⟨hx46_0, hf46_0⟩ := Kd.R_celln 0 HO659.out (3 : Int) p46 q46; (try rw [show ((3 : Int)).toNat = 3 from rfl] at hx46_0); (try simp only [Nat.reduceMul, Nat.zero_mul, Nat.zero_add, Nat.reduceAdd] at hx46_0); (try rw [show ((3 : Int)).toNat = 3 from rfl] at hf46_0); (try simp only [Nat.reduceMul, Nat.zero_mul, Nat.zero_add, Nat.reduceAdd] at hf46_0); replace p46 := eq_true p46; replace q46 := eq_true q46; obtain ⟨hy49_, hz49_⟩ := Kd.R_celln 0 HO659.out (3 : Int) (by omega) (of_decide_eq_true (by first | (with_reducible assumption) | assumption)); (try simp only [Int.reduceToNat, Int.toNat_zero, Int.toNat_ofNat, Nat.reduceMul, Nat.zero_mul, Nat.zero_add] at hy49_ hz49_); (try rw [show ((3 : Int)).toNat = 3 from rfl] at hy49_); (try rw [show ((3 : Int)).toNat = 3 from rfl] at hz49_); have HP49 := Kd.R_putg HO659.out (3 : Int) 1) | ((with_reducible refine gate_store (t := 5) (p := 56) rfl ?_); refine store_event (t := 5) (p := 56) (v := ?vo_w50) (w1 := (w48.setCell ⟨go44, (3 : Int).toNat, none⟩ (.int .u8 1))) ?hg ?ho ?hn ?hr ?_; (case ho => rfl); (case hg => rfl); (case hn => rfl); (case hr => first | (go_simp; done) | (go_simp; rfl)); intro w50 hw; have hg : w48.grownBy w50 (some go44) := (by rw [hw]; exact HP49.2); have hp_ : Kd.R (Kd.int .u8) 5 w50 w.heap.size (fun _ => True) (.slice (some ⟨go44, 0, none⟩) y657.length co44) y663 := (by rw [hw, Ny663.out]; exact HP49.1); clear HP49; have n0_ := Aside0.mk (blk_grown (g := gb632) (o := .cells #[.int .i64 a0_0, .int .i64 a0_1, .int .i64 a0_2, .int .i64 a0_3, .int .i64 a0_4, .int .i64 a0_5, .slice A0_6 l0_6.length c0_6, .slice A0_7 l0_7.length c0_7, .slice A0_8 l0_8.length c0_8, .slice A0_9 l0_9.length c0_9] 34 (0, 0)) (by (with_reducible repeat (first | refine blk_drewN ?_ _ | refine blk_drew ?_ | refine blk_alloc ?_ _)); exact BK632.out) hg (Kd.R_ne HO659.out BK632.out (by decide))); have n1_ := Aside0.mk (hp_); have n2_ := Aside0.mk ((by rw [hw]; exact below_set (HB.out) GB44.out : Below w.heap.size w w50)); clear BK632; clear HO659; clear HB; have BK632 := n0_; have HO659 := n1_; have HB := n2_; clear n0_ n1_ n2_; clear hg hw hp_))
               go_meet
               case rel => exact ⟨_, (y663), (2), (0), (by first | rfl | (simp; done) | (simp [*]; done)), (by first | rfl | (simp; done) | (simp [*]; done)), H', ⟨by have := HJ5.out; have := HJ17.out; first | omega | exact Nat.le_refl _⟩, ⟨by (with_reducible repeat (first | apply Kd.R_alloc | apply Kd.R_drewN | apply Kd.R_drew)); exact HO659.out⟩, ⟨by (with_reducible repeat (first | refine blk_drewN ?_ _ | refine blk_drew ?_ | refine blk_alloc ?_ _)); exact BK632.out⟩, ⟨by repeat (first | (with_reducible first | exact HB.out | apply below_alloc | apply pw_below_drewN | apply below_drew1 | refine below_set ?_ GE632.out) | exact HB.out)⟩⟩
              ·rw [if_neg c45] at H
               exact absurd H (by simp)
             ·rw [if_neg c43] at H
              exact absurd H (by simp)
            ·rw [if_neg c42] at H
             have c42b0 : ((Int.tmod a1 6) == 2) = false := beq_eq_false_iff_ne.mpr c42
             have c42b1 : ((Int.tmod a1 6) != 2) = true := bne_iff_ne.mpr c42
             by_cases c51 : (Int.tmod a1 6) = 3
             ·rw [if_pos c51] at H
              have c51b0 : ((Int.tmod a1 6) == 3) = true := beq_iff_eq.mpr c51
              have c51b1 : ((Int.tmod a1 6) != 3) = false := bne_eq_false_iff_eq.mpr c51
              clear c51
              by_cases c52 : 5 < (y657.length : Int)
              ·rw [if_pos c52] at H
               have c52b0 : decide (5 < (y657.length : Int)) = true := decide_eq_true c52
               have c52b1 : decide (5 < y657.length) = true := decide_eq_true (by omega)
               clear c52
               obtain ⟨y664, hy664⟩ : ∃ y_ : List Int, y_ = (y657.set (5 : Int).toNat 5) := ⟨_, rfl⟩
               replace H : (quarrellaw20_ScriptSpoilt.j2 kj17 y664 2 0) = some r := by first | (rw [hy664]; with_reducible exact H) | (have H2_ := (Option.bind_some _ _).symm.trans H; rw [hy664]; with_reducible exact H2_) | (have H2_ := (Option.bind_some _ _).symm.trans H; with_reducible exact H2_) | with_reducible exact H | (rw [hy664]; exact H) | exact H
               have Ny664 := Aside0.mk hy664
               clear hy664
               have H' := Aside0.mk H
               clear H
               have p53 : 0 ≤ (5 : Int) := (by omega)
               have q53 : (5 : Int) < ((y657.length : Int) : Int) := of_decide_eq_true (by first | (with_reducible assumption) | assumption)
               have qi53 : (5 < y657.length) = True := eq_true (by omega)
               obtain ⟨go53, co53, eo53, gb53, gl53, cl53, HG53⟩ := Kd.R_form HO659.out (by omega)
               (first | cases eo53 | (injection eo53 with ea_ en_ ec_; (first | subst ea_ | (injection ea_ with ea_; subst ea_)); subst ec_; clear en_))
               have GB53 := Aside0.mk gb53
               have GG53 := Aside0.mk HG53
               clear gb53 gl53 HG53
               obtain ⟨hx53_0, hf53_0⟩ := Kd.R_celln 0 HO659.out (5 : Int) p53 q53
               (try rw [show ((5 : Int)).toNat = 5 from rfl] at hx53_0)
               (try simp only [Nat.reduceMul, Nat.zero_mul, Nat.zero_add, Nat.reduceAdd] at hx53_0)
               (try rw [show ((5 : Int)).toNat = 5 from rfl] at hf53_0)
               (try simp only [Nat.reduceMul, Nat.zero_mul, Nat.zero_add, Nat.reduceAdd] at hf53_0)
               replace p53 := eq_true p53
               replace q53 := eq_true q53
               have HP54 := Kd.R_putg HO659.out (5 : Int) 5
               go_wp2_with (first | ((with_reducible refine gate_store (t := 5) (p := 60) rfl ?_); refine store_event (t := 5) (p := 60) (v := ?vo_w55) (w1 := (w31.setCell ⟨go53, (5 : Int).toNat, none⟩ (.int .u8 5))) ?hg ?ho ?hn ?hr ?_; (case ho => rfl); (case hg => rfl); (case hn => rfl); (case hr => first | (go_simp; done) | (go_simp; rfl)); intro w55 hw; have hg : w31.grownBy w55 (some go53) := (by rw [hw]; exact HP54.2); have hp_ : Kd.R (Kd.int .u8) 5 w55 w.heap.size (fun _ => True) (.slice (some ⟨go53, 0, none⟩) y657.length co53) y664 := (by rw [hw, Ny664.out]; exact HP54.1); clear HP54; have n0_ := Aside0.mk (blk_grown (g := gb632) (o := .cells #[.int .i64 a0_0, .int .i64 a0_1, .int .i64 a0_2, .int .i64 a0_3, .int .i64 a0_4, .int .i64 a0_5, .slice A0_6 l0_6.length c0_6, .slice A0_7 l0_7.length c0_7, .slice A0_8 l0_8.length c0_8, .slice A0_9 l0_9.length c0_9] 34 (0, 0)) (by (with_reducible repeat (first | refine blk_drewN ?_ _ | refine blk_drew ?_ | refine blk_alloc ?_ _)); exact BK632.out) hg (Kd.R_ne HO659.out BK632.out (by decide))); have n1_ := Aside0.mk (hp_); have n2_ := Aside0.mk ((by rw [hw]; exact below_set (HB.out) GB53.out : Below w.heap.size w w55)); clear BK632; clear HO659; clear HB; have BK632 := n0_; have HO659 := n1_; have HB := n2_; clear n0_ n1_ n2_; clear hg hw hp_))
               go_meet
               case rel => exact ⟨_, (y664), (2), (0), (by first | rfl | (simp; done) | (simp [*]; done)), (by first | rfl | (simp; done) | (simp [*]; done)), H', ⟨by have := HJ5.out; have := HJ17.out; first | omega | exact Nat.le_refl _⟩, ⟨by (with_reducible repeat (first | apply Kd.R_alloc | apply Kd.R_drewN | apply Kd.R_drew)); exact HO659.out⟩, ⟨by (with_reducible repeat (first | refine blk_drewN ?_ _ | refine blk_drew ?_ | refine blk_alloc ?_ _)); exact BK632.out⟩, ⟨by repeat (first | (with_reducible first | exact HB.out | apply below_alloc | apply pw_below_drewN | apply below_drew1 | refine below_set ?_ GE632.out) | exact HB.out)⟩⟩
              ·rw [if_neg c52] at H
               exact absurd H (by simp)
             ·rw [if_neg c51] at H
              have c51b0 : ((Int.tmod a1 6) == 3) = false := beq_eq_false_iff_ne.mpr c51
              have c51b1 : ((Int.tmod a1 6) != 3) = true := bne_iff_ne.mpr c51
              by_cases c56 : (Int.tmod a1 6) = 4
              ·rw [if_pos c56] at H
               have c56b0 : ((Int.tmod a1 6) == 4) = true := beq_iff_eq.mpr c56
               have c56b1 : ((Int.tmod a1 6) != 4) = false := bne_eq_false_iff_eq.mpr c56
               clear c56
               by_cases c57 : 6 < (y657.length : Int)
               ·rw [if_pos c57] at H
                have c57b0 : decide (6 < (y657.length : Int)) = true := decide_eq_true c57
                have c57b1 : decide (6 < y657.length) = true := decide_eq_true (by omega)
                clear c57
                obtain ⟨y665, hy665⟩ : ∃ y_ : List Int, y_ = (y657.set (6 : Int).toNat 65) := ⟨_, rfl⟩
                replace H : (quarrellaw20_ScriptSpoilt.j2 kj17 y665 2 0) = some r := by first | (rw [hy665]; with_reducible exact H) | (have H2_ := (Option.bind_some _ _).symm.trans H; rw [hy665]; with_reducible exact H2_) | (have H2_ := (Option.bind_some _ _).symm.trans H; with_reducible exact H2_) | with_reducible exact H | (rw [hy665]; exact H) | exact H
                have Ny665 := Aside0.mk hy665
                clear hy665
                have H' := Aside0.mk H
                clear H
                have p58 : 0 ≤ (6 : Int) := (by omega)
                have q58 : (6 : Int) < ((y657.length : Int) : Int) := of_decide_eq_true (by first | (with_reducible assumption) | assumption)
                have qi58 : (6 < y657.length) = True := eq_true (by omega)
                obtain ⟨go58, co58, eo58, gb58, gl58, cl58, HG58⟩ := Kd.R_form HO659.out (by omega)
                (first | cases eo58 | (injection eo58 with ea_ en_ ec_; (first | subst ea_ | (injection ea_ with ea_; subst ea_)); subst ec_; clear en_))
                have GB58 := Aside0.mk gb58
                have GG58 := Aside0.mk HG58
                clear gb58 gl58 HG58
                obtain ⟨hx58_0, hf58_0⟩ := Kd.R_celln 0 HO659.out (6 : Int) p58 q58
                (try rw [show ((6 : Int)).toNat = 6 from rfl] at hx58_0)
                (try simp only [Nat.reduceMul, Nat.zero_mul, Nat.zero_add, Nat.reduceAdd] at hx58_0)
                (try rw [show ((6 : Int)).toNat = 6 from rfl] at hf58_0)
                (try simp only [Nat.reduceMul, Nat.zero_mul, Nat.zero_add, Nat.reduceAdd] at hf58_0)
                replace p58 := eq_true p58
                replace q58 := eq_true q58
                have HP59 := Kd.R_putg HO659.out (6 : Int) 65
                go_wp2_with (first | ((with_reducible refine gate_store (t := 5) (p := 64) rfl ?_); refine store_event (t := 5) (p := 64) (v := ?vo_w60) (w1 := (w31.setCell ⟨go58, (6 : Int).toNat, none⟩ (.int .u8 65))) ?hg ?ho ?hn ?hr ?_; (case ho => rfl); (case hg => rfl); (case hn => rfl); (case hr => first | (go_simp; done) | (go_simp; rfl)); intro w60 hw; have hg : w31.grownBy w60 (some go58) := (by rw [hw]; exact HP59.2); have hp_ : Kd.R (Kd.int .u8) 5 w60 w.heap.size (fun _ => True) (.slice (some ⟨go58, 0, none⟩) y657.length co58) y665 := (by rw [hw, Ny665.out]; exact HP59.1); clear HP59; have n0_ := Aside0.mk (blk_grown (g := gb632) (o := .cells #[.int .i64 a0_0, .int .i64 a0_1, .int .i64 a0_2, .int .i64 a0_3, .int .i64 a0_4, .int .i64 a0_5, .slice A0_6 l0_6.length c0_6, .slice A0_7 l0_7.length c0_7, .slice A0_8 l0_8.length c0_8, .slice A0_9 l0_9.length c0_9] 34 (0, 0)) (by (with_reducible repeat (first | refine blk_drewN ?_ _ | refine blk_drew ?_ | refine blk_alloc ?_ _)); exact BK632.out) hg (Kd.R_ne HO659.out BK632.out (by decide))); have n1_ := Aside0.mk (hp_); have n2_ := Aside0.mk ((by rw [hw]; exact below_set (HB.out) GB58.out : Below w.heap.size w w60)); clear BK632; clear HO659; clear HB; have BK632 := n0_; have HO659 := n1_; have HB := n2_; clear n0_ n1_ n2_; clear hg hw hp_))
                go_meet
                case rel => exact ⟨_, (y665), (2), (0), (by first | rfl | (simp; done) | (simp [*]; done)), (by first | rfl | (simp; done) | (simp [*]; done)), H', ⟨by have := HJ5.out; have := HJ17.out; first | omega | exact Nat.le_refl _⟩, ⟨by (with_reducible repeat (first | apply Kd.R_alloc | apply Kd.R_drewN | apply Kd.R_drew)); exact HO659.out⟩, ⟨by (with_reducible repeat (first | refine blk_drewN ?_ _ | refine blk_drew ?_ | refine blk_alloc ?_ _)); exact BK632.out⟩, ⟨by repeat (first | (with_reducible first | exact HB.out | apply below_alloc | apply pw_below_drewN | apply below_drew1 | refine below_set ?_ GE632.out) | exact HB.out)⟩⟩
               ·rw [if_neg c57] at H
                exact absurd H (by simp)
              ·rw [if_neg c56] at H
               have c56b0 : ((Int.tmod a1 6) == 4) = false := beq_eq_false_iff_ne.mpr c56
               have c56b1 : ((Int.tmod a1 6) != 4) = true := bne_iff_ne.mpr c56
               by_cases c61 : (Int.tmod a1 6) = 5
               ·rw [if_pos c61] at H
                have c61b0 : ((Int.tmod a1 6) == 5) = true := beq_iff_eq.mpr c61
                have c61b1 : ((Int.tmod a1 6) != 5) = false := bne_eq_false_iff_eq.mpr c61
                clear c61
                by_cases c62 : 2 < (y657.length : Int)
                ·rw [if_pos c62] at H
                 have c62b0 : decide (2 < (y657.length : Int)) = true := decide_eq_true c62
                 have c62b1 : decide (2 < y657.length) = true := decide_eq_true (by omega)
                 clear c62
                 obtain ⟨y666, hy666⟩ : ∃ y_ : List Int, y_ = (y657.set (2 : Int).toNat 0) := ⟨_, rfl⟩
                 replace H : (if 3 < (y657.length : Int) then (quarrellaw20_ScriptSpoilt.j2 kj17 (y666.set (3 : Int).toNat ((wrap64 ((wrap64 (2 * a0_0)) - 1)) % 256)) 4 2) else (none)) = some r := by first | (rw [hy666]; with_reducible exact H) | (have H2_ := (Option.bind_some _ _).symm.trans H; rw [hy666]; with_reducible exact H2_) | (have H2_ := (Option.bind_some _ _).symm.trans H; with_reducible exact H2_) | with_reducible exact H | (rw [hy666]; exact H) | exact H
                 have Ny666 := Aside0.mk hy666
                 clear hy666
                 by_cases c64 : 3 < (y657.length : Int)
                 ·rw [if_pos c64] at H
                  have c64b0 : decide (3 < (y657.length : Int)) = true := decide_eq_true c64
                  have c64b1 : decide (3 < y657.length) = true := decide_eq_true (by omega)
                  clear c64
                  obtain ⟨y667, hy667⟩ : ∃ y_ : List Int, y_ = (y666.set (3 : Int).toNat ((wrap64 ((wrap64 (2 * a0_0)) - 1)) % 256)) := ⟨_, rfl⟩
                  replace H : (quarrellaw20_ScriptSpoilt.j2 kj17 y667 4 2) = some r := by first | (rw [hy667]; with_reducible exact H) | (have H2_ := (Option.bind_some _ _).symm.trans H; rw [hy667]; with_reducible exact H2_) | (have H2_ := (Option.bind_some _ _).symm.trans H; with_reducible exact H2_) | with_reducible exact H | (rw [hy667]; exact H) | exact H
                  have Ny667 := Aside0.mk hy667
                  clear hy667
                  have H' := Aside0.mk H
                  clear H
                  try go_wp2
                  have n0_ := Aside0.mk (Kd.R_drew HO659.out)
                  have n1_ := Aside0.mk (blk_drew BK632.out)
                  have n2_ := Aside0.mk (below_drew1 HB.out)
                  clear HO659
                  clear BK632
                  clear HB
                  have HO659 := n0_
                  have BK632 := n1_
                  have HB := n2_
                  clear n0_ n1_ n2_
                  have p63 : 0 ≤ (2 : Int) := (by omega)
                  have q63 : (2 : Int) < ((y657.length : Int) : Int) := of_decide_eq_true (by first | (with_reducible assumption) | assumption)
                  have qi63 : (2 < y657.length) = True := eq_true (by omega)
                  obtain ⟨go63, co63, eo63, gb63, gl63, cl63, HG63⟩ := Kd.R_form HO659.out (by omega)
                  (first | cases eo63 | (injection eo63 with ea_ en_ ec_; (first | subst ea_ | (injection ea_ with ea_; subst ea_)); subst ec_; clear en_))
                  have GB63 := Aside0.mk gb63
                  have GG63 := Aside0.mk HG63
                  clear gb63 gl63 HG63
                  obtain ⟨hx63_0, hf63_0⟩ := Kd.R_celln 0 HO659.out (2 : Int) p63 q63
                  (try rw [show ((2 : Int)).toNat = 2 from rfl] at hx63_0)
                  (try simp only [Nat.reduceMul, Nat.zero_mul, Nat.zero_add, Nat.reduceAdd] at hx63_0)
                  (try rw [show ((2 : Int)).toNat = 2 from rfl] at hf63_0)
                  (try simp only [Nat.reduceMul, Nat.zero_mul, Nat.zero_add, Nat.reduceAdd] at hf63_0)
                  replace p63 := eq_true p63
                  replace q63 := eq_true q63
                  have HP67 := Kd.R_putn HO659.out (2 : Int) 0
                  rw [← Ny666.out] at HP67
                  have HQ67 := Aside0.mk HP67
                  clear HP67
                  have p65 : 0 ≤ (3 : Int) := (by omega)
                  have q65 : (3 : Int) < ((y657.length : Int) : Int) := of_decide_eq_true (by first | (with_reducible assumption) | assumption)
                  have qi65 : (3 < y657.length) = True := eq_true (by omega)
                  obtain ⟨hx65_0, hf65_0⟩ := Kd.R_celln 0 HQ67.out (3 : Int) p65 q65
                  (try rw [show ((3 : Int)).toNat = 3 from rfl] at hx65_0)
                  (try simp only [Nat.reduceMul, Nat.zero_mul, Nat.zero_add, Nat.reduceAdd] at hx65_0)
                  (try rw [show ((3 : Int)).toNat = 3 from rfl] at hf65_0)
                  (try simp only [Nat.reduceMul, Nat.zero_mul, Nat.zero_add, Nat.reduceAdd] at hf65_0)
                  replace p65 := eq_true p65
                  replace q65 := eq_true q65
                  have HP68 := Kd.R_putn HQ67.out (3 : Int) ((wrap64 ((wrap64 (2 * a0_0)) - 1)) % 256)
                  rw [← Ny667.out] at HP68
                  have HQ68 := Aside0.mk HP68
                  clear HP68
                  refine start_ (n := 12) (S := fun w' => w'.cell? ⟨gb632, 0, none⟩ = some (.int .i64 a0_0) ∧ w'.cell? ⟨gb632, 1, none⟩ = some (.int .i64 a0_1) ∧ w'.cell? ⟨gb632, 2, none⟩ = some (.int .i64 a0_2) ∧ w'.cell? ⟨gb632, 3, none⟩ = some (.int .i64 a0_3) ∧ w'.cell? ⟨gb632, 4, none⟩ = some (.int .i64 a0_4) ∧ w'.cell? ⟨gb632, 5, none⟩ = some (.int .i64 a0_5) ∧ w'.cell? ⟨gb632, 6, none⟩ = some (.slice A0_6 l0_6.length c0_6) ∧ w'.cell? ⟨gb632, 7, none⟩ = some (.slice A0_7 l0_7.length c0_7) ∧ w'.cell? ⟨gb632, 8, none⟩ = some (.slice A0_8 l0_8.length c0_8) ∧ w'.cell? ⟨gb632, 9, none⟩ = some (.slice A0_9 l0_9.length c0_9)) (ds := [11]) #[false, false, false, false, false, false, false, false, false, false, false, false] (by kernel_rfl) rfl rfl ⟨(blk_cell BK632.out 0).trans rfl, (blk_cell BK632.out 1).trans rfl, (blk_cell BK632.out 2).trans rfl, (blk_cell BK632.out 3).trans rfl, (blk_cell BK632.out 4).trans rfl, (blk_cell BK632.out 5).trans rfl, (blk_cell BK632.out 6).trans rfl, (blk_cell BK632.out 7).trans rfl, (blk_cell BK632.out 8).trans rfl, (blk_cell BK632.out 9).trans rfl⟩ (fun hHeld => ?_); refine with_tabW quarrellaw20_ScriptSpoilt.tab22 quarrellaw20_ScriptSpoilt.bits22 (fun HT_ HW_ => ?_)
                  generalize w31.drew = w66 at HO659 BK632 HB GG63 HQ67 HQ68 hf63_0 hf65_0 hx63_0 hx65_0 hHeld ⊢
                  refine pure_ (i := 0) (N := some 67) (v := ?_) (a' := ?_) #[true, false, false, false, false, false, false, false, false, false, false, false] rfl rfl (any_of HT_.out (by kernel_rfl)) (fun _ _ _ h => h) (Or.inl ⟨by rfl, ?_⟩) ?_ ?_
                  rotate_left
                  ·intro w'
                   go_simp
                   with_reducible rfl
                  rotate_left
                  ·simp only [Act.put, List.setIfInBounds_toArray, List.set_cons_zero, List.set_cons_succ, i64_w, i32_w]
                   rfl
                  refine pure_ (i := 1) (N := some 68) (v := ?_) (a' := ?_) #[true, true, false, false, false, false, false, false, false, false, false, false] rfl rfl (any_of HT_.out (by kernel_rfl)) (fun _ _ _ h => h) (Or.inl ⟨by rfl, ?_⟩) ?_ ?_
                  rotate_left
                  ·intro w'
                   go_simp
                   with_reducible rfl
                  rotate_left
                  ·simp only [Act.put, List.setIfInBounds_toArray, List.set_cons_zero, List.set_cons_succ, i64_w, i32_w]
                   rfl
                  refine pure_ (i := 2) (N := some 69) (v := ?_) (a' := ?_) #[true, true, true, false, false, false, false, false, false, false, false, false] rfl rfl (any_of HT_.out (by kernel_rfl)) (fun _ _ _ h => h) (Or.inl ⟨by rfl, ?_⟩) ?_ ?_
                  rotate_left
                  ·intro w'
                   go_simp
                   with_reducible rfl
                  rotate_left
                  ·simp only [Act.put, List.setIfInBounds_toArray, List.set_cons_zero, List.set_cons_succ, i64_w, i32_w]
                   rfl
                  refine pure_ (i := 3) (N := some 70) (v := ?_) (a' := ?_) #[true, true, true, true, false, false, false, false, false, false, false, false] rfl rfl (any_of HT_.out (by kernel_rfl)) (fun _ _ _ h => h) (Or.inl ⟨by rfl, ?_⟩) ?_ ?_
                  rotate_left
                  ·intro w'
                   go_simp
                   with_reducible rfl
                  rotate_left
                  ·simp only [Act.put, List.setIfInBounds_toArray, List.set_cons_zero, List.set_cons_succ, i64_w, i32_w]
                   rfl
                  refine pure_ (i := 8) (N := some 75) (v := ?_) (a' := ?_) #[true, true, true, true, false, false, false, false, true, false, false, false] rfl rfl (any_of HT_.out (by kernel_rfl)) (fun _ _ _ h => h) (Or.inl ⟨by rfl, ?_⟩) ?_ ?_
                  rotate_left
                  ·intro w'
                   go_simp
                   with_reducible rfl
                  rotate_left
                  ·simp only [Act.put, List.setIfInBounds_toArray, List.set_cons_zero, List.set_cons_succ, i64_w, i32_w]
                   rfl
                  refine take_ (i := 4) (N := some 71) (v := ?_) (a' := ?_) #[true, true, true, true, true, false, false, false, true, false, false, false] rfl rfl (take_ofW HT_.out HW_.out (by kernel_rfl)) (fun _ _ _ h => h) (Or.inl ⟨by rfl, ?_⟩) hHeld ?_ ?_
                  rotate_left
                  ·rintro w' ⟨s0, s1, s2, s3, s4, s5, s6, s7, s8, s9⟩
                   go_simp
                   with_reducible rfl
                  rotate_left
                  ·simp only [Act.put, List.setIfInBounds_toArray, List.set_cons_zero, List.set_cons_succ, i64_w, i32_w]
                   rfl
                  refine pure_ (i := 5) (N := some 72) (v := ?_) (a' := ?_) #[true, true, true, true, true, true, false, false, true, false, false, false] rfl rfl (any_of HT_.out (by kernel_rfl)) (fun _ _ _ h => h) (Or.inl ⟨by rfl, ?_⟩) ?_ ?_
                  rotate_left
                  ·intro w'
                   go_simp
                   with_reducible rfl
                  rotate_left
                  ·simp only [Act.put, List.setIfInBounds_toArray, List.set_cons_zero, List.set_cons_succ, i64_w, i32_w]
                   rfl
                  refine pure_ (i := 6) (N := some 73) (v := ?_) (a' := ?_) #[true, true, true, true, true, true, true, false, true, false, false, false] rfl rfl (any_of HT_.out (by kernel_rfl)) (fun _ _ _ h => h) (Or.inl ⟨by rfl, ?_⟩) ?_ ?_
                  rotate_left
                  ·intro w'
                   go_simp
                   with_reducible rfl
                  rotate_left
                  ·simp only [Act.put, List.setIfInBounds_toArray, List.set_cons_zero, List.set_cons_succ, i64_w, i32_w]
                   rfl
                  refine pure_ (i := 7) (N := some 74) (v := ?_) (a' := ?_) #[true, true, true, true, true, true, true, true, true, false, false, false] rfl rfl (any_of HT_.out (by kernel_rfl)) (fun _ _ _ h => h) (Or.inl ⟨by rfl, ?_⟩) ?_ ?_
                  rotate_left
                  ·intro w'
                   go_simp
                   with_reducible rfl
                  rotate_left
                  ·simp only [Act.put, List.setIfInBounds_toArray, List.set_cons_zero, List.set_cons_succ, i64_w, i32_w]
                   rfl
                  refine one_ (i := 9) (N := none) #[true, true, true, true, true, true, true, true, true, true, false, false] rfl rfl (one_of HT_.out (by kernel_rfl)) (by decide) (fun K hK => ?_)
                  refine skip_ (w1 := ?_) (by rfl) rfl ?_ ?_
                  rotate_left
                  ·go_simp
                   rfl
                  have BKX := blk_far BK632.out (p := ⟨go63, 2, none⟩) (by have h_ := Kd.R_ne HO659.out BK632.out (by decide); intro e_; exact h_ (by rw [e_]; rfl)) (.int .u8 0)
                  refine hK.out _ _ ⟨(blk_cell BKX 0).trans rfl, (blk_cell BKX 1).trans rfl, (blk_cell BKX 2).trans rfl, (blk_cell BKX 3).trans rfl, (blk_cell BKX 4).trans rfl, (blk_cell BKX 5).trans rfl, (blk_cell BKX 6).trans rfl, (blk_cell BKX 7).trans rfl, (blk_cell BKX 8).trans rfl, (blk_cell BKX 9).trans rfl⟩ (fun hHeld => ?_)
                  clear BKX
                  clear hK K
                  refine pure_ (i := 10) (N := some 76) (v := ?_) (a' := ?_) #[true, true, true, true, true, true, true, true, true, true, true, false] rfl rfl (any_of HT_.out (by kernel_rfl)) (fun _ _ _ h => h) (Or.inl ⟨by rfl, ?_⟩) ?_ ?_
                  rotate_left
                  ·intro w'
                   go_simp
                   with_reducible rfl
                  rotate_left
                  ·simp only [Act.put, List.setIfInBounds_toArray, List.set_cons_zero, List.set_cons_succ, i64_w, i32_w]
                   rfl
                  refine last_ (i := 11) (N := none) #[true, true, true, true, true, true, true, true, true, true, true, true] rfl rfl (one_of HT_.out (by kernel_rfl)) (by decide) (fun K hK => ?_)
                  have hxx := (World.cell?_setCell_other (w := w66) (a := ⟨go63, 2, none⟩) (b := ⟨go63, 3, none⟩) (v := .int .u8 0) (by simp)).symm.trans hx65_0
                  have hff : w66.frozen? ⟨go63, 3, none⟩ = false := (Eq.symm (World.frozen?_setCell w66 ⟨go63, 2, none⟩ ⟨go63, 3, none⟩ (.int .u8 0))).trans hf65_0
                  refine skip_ (w1 := ?_) (by rfl) rfl ?_ ?_
                  rotate_left
                  ·go_simp
                   rfl
                  refine hK.out _ _ ?_
                  clear hK K
                  clear hxx hff
                  refine done_ (done_of HT_.out (by kernel_rfl)) ?_
                  simp only [IntKind.wrap_u8]
                  have n0_ : Aside0 (Kd.R (Kd.int .u8) 5 ((w66.setCell ⟨go63, 2, none⟩ (.int .u8 0)).setCell ⟨go63, 3, none⟩ (.int .u8 ((wrap64 ((wrap64 (2 * a0_0)) - 1)) % 256))) w.heap.size (fun _ => True) (.slice (some ⟨go63, 0, none⟩) y657.length co63) y667) := ⟨by (with_reducible repeat (first | apply Kd.R_alloc | apply Kd.R_drewN | apply Kd.R_drew)); exact HQ68.out⟩
                  have n1_ : Aside0 (((w66.setCell ⟨go63, 2, none⟩ (.int .u8 0)).setCell ⟨go63, 3, none⟩ (.int .u8 ((wrap64 ((wrap64 (2 * a0_0)) - 1)) % 256))).heap[gb632]? = some (.cells #[.int .i64 a0_0, .int .i64 a0_1, .int .i64 a0_2, .int .i64 a0_3, .int .i64 a0_4, .int .i64 a0_5, .slice A0_6 l0_6.length c0_6, .slice A0_7 l0_7.length c0_7, .slice A0_8 l0_8.length c0_8, .slice A0_9 l0_9.length c0_9] 34 (0, 0))) := ⟨by (with_reducible repeat (first | refine blk_drewN ?_ _ | refine blk_drew ?_ | refine blk_alloc ?_ _)); refine blk_far ?_ (by have h_ := Kd.R_ne HO659.out BK632.out (by decide); intro e_; exact h_ (by rw [e_]; rfl)) _; (with_reducible repeat (first | refine blk_drewN ?_ _ | refine blk_drew ?_ | refine blk_alloc ?_ _)); refine blk_far ?_ (by have h_ := Kd.R_ne HO659.out BK632.out (by decide); intro e_; exact h_ (by rw [e_]; rfl)) _; (with_reducible repeat (first | refine blk_drewN ?_ _ | refine blk_drew ?_ | refine blk_alloc ?_ _)); exact BK632.out⟩
                  have n2_ : Aside0 (Below w.heap.size w ((w66.setCell ⟨go63, 2, none⟩ (.int .u8 0)).setCell ⟨go63, 3, none⟩ (.int .u8 ((wrap64 ((wrap64 (2 * a0_0)) - 1)) % 256)))) := ⟨by repeat (first | (with_reducible first | exact HB.out | apply below_alloc | apply pw_below_drewN | apply below_drew1 | refine below_set ?_ GB63.out | refine below_set ?_ GB63.out | refine below_set ?_ GE632.out) | exact HB.out)⟩
                  (try clear HO659)
                  (try clear BK632)
                  (try clear HB)
                  generalize ((w66.setCell ⟨go63, 2, none⟩ (.int .u8 0)).setCell ⟨go63, 3, none⟩ (.int .u8 ((wrap64 ((wrap64 (2 * a0_0)) - 1)) % 256))) = w69 at n0_ n1_ n2_ ⊢
                  have HO659 := n0_
                  have BK632 := n1_
                  have HB := n2_
                  clear n0_ n1_ n2_
                  try go_wp2
                  go_meet
                  case rel => exact ⟨_, (y667), (4), (2), (by first | rfl | (simp; done) | (simp [*]; done)), (by first | rfl | (simp; done) | (simp [*]; done)), H', ⟨by have := HJ5.out; have := HJ17.out; first | omega | exact Nat.le_refl _⟩, ⟨by (with_reducible repeat (first | apply Kd.R_alloc | apply Kd.R_drewN | apply Kd.R_drew)); exact HO659.out⟩, ⟨by (with_reducible repeat (first | refine blk_drewN ?_ _ | refine blk_drew ?_ | refine blk_alloc ?_ _)); exact BK632.out⟩, ⟨by repeat (first | (with_reducible first | exact HB.out | apply below_alloc | apply pw_below_drewN | apply below_drew1 | refine below_set ?_ GE632.out) | exact HB.out)⟩⟩
                 ·rw [if_neg c64] at H
                  exact absurd H (by simp)
                ·rw [if_neg c62] at H
                 exact absurd H (by simp)
               ·rw [if_neg c61] at H
                have c61b0 : ((Int.tmod a1 6) == 5) = false := beq_eq_false_iff_ne.mpr c61
                have c61b1 : ((Int.tmod a1 6) != 5) = true := bne_iff_ne.mpr c61
                have H' := Aside0.mk H
                clear H
                go_wp2
                go_meet
                case rel => exact ⟨_, (y657), (2), (0), (by first | rfl | (simp; done) | (simp [*]; done)), (by first | rfl | (simp; done) | (simp [*]; done)), H', ⟨by have := HJ5.out; have := HJ17.out; first | omega | exact Nat.le_refl _⟩, ⟨by (with_reducible repeat (first | apply Kd.R_alloc | apply Kd.R_drewN | apply Kd.R_drew)); exact HO659.out⟩, ⟨by (with_reducible repeat (first | refine blk_drewN ?_ _ | refine blk_drew ?_ | refine blk_alloc ?_ _)); exact BK632.out⟩, ⟨by repeat (first | (with_reducible first | exact HB.out | apply below_alloc | apply pw_below_drewN | apply below_drew1 | refine below_set ?_ GE632.out) | exact HB.out)⟩⟩
         case rest =>
          clear HC30
          try clear c1
          try clear c2
          try clear p2
          try clear c3
          try clear p3
          try clear q3
          try clear hx3
          try clear qi3
          try clear hf3
          try clear c4
          try clear p4
          try clear q4
          try clear hx4
          try clear qi4
          try clear hf4
          try clear c5
          try clear p5
          try clear q5
          try clear hx5
          try clear qi5
          try clear hf5
          try clear c6
          try clear p6
          try clear q6
          try clear hx6
          try clear qi6
          try clear hf6
          try clear c8
          try clear c9
          try clear c10
          try clear c13
          try clear c15
          try clear c16
          try clear c26
          try clear c26b0
          try clear c26b1
          try clear c28
          try clear c29
          try clear c32
          try clear c32b0
          try clear c32b1
          try clear c33
          try clear c33b0
          try clear c33b1
          try clear p34
          try clear q34
          try clear hx34
          try clear qi34
          try clear hf34
          try clear c37
          try clear c37b0
          try clear c37b1
          try clear c38
          try clear c38b0
          try clear c38b1
          try clear p39
          try clear q39
          try clear hx39
          try clear qi39
          try clear hf39
          try clear c42
          try clear c42b0
          try clear c42b1
          try clear c43
          try clear c43b0
          try clear c43b1
          try clear p44
          try clear q44
          try clear hx44
          try clear qi44
          try clear hf44
          try clear c45
          try clear c45b0
          try clear c45b1
          try clear p46
          try clear q46
          try clear hx46
          try clear qi46
          try clear hf46
          try clear c51
          try clear c51b0
          try clear c51b1
          try clear c52
          try clear c52b0
          try clear c52b1
          try clear p53
          try clear q53
          try clear hx53
          try clear qi53
          try clear hf53
          try clear c56
          try clear c56b0
          try clear c56b1
          try clear c57
          try clear c57b0
          try clear c57b1
          try clear p58
          try clear q58
          try clear hx58
          try clear qi58
          try clear hf58
          try clear c61
          try clear c61b0
          try clear c61b1
          try clear c62
          try clear c62b0
          try clear c62b1
          try clear p63
          try clear q63
          try clear hx63
          try clear qi63
          try clear hf63
          try clear c64
          try clear c64b0
          try clear c64b1
          try clear p64
          try clear p65
          try clear q65
          try clear hx65
          try clear qi65
          try clear hf65
          try clear hcz11_0
          try clear hcz11_1
          try clear hcz11_2
          try clear hcz11_3
          try clear hcz11_4
          try clear hcz11_5
          try clear hcz11_6
          try clear hcz11_7
          try clear hcz11_8
          try clear hcz11_9
          try clear hcz13_0
          try clear hcz13_1
          try clear hcz13_2
          try clear hcz13_3
          try clear hcz13_4
          try clear hcz13_5
          try clear hcz13_6
          try clear hcz13_7
          try clear hcz13_8
          try clear hcz13_9
          try clear hcz19_0
          try clear hcz19_1
          try clear hcz19_2
          try clear hcz19_3
          try clear hcz19_4
          try clear hcz19_5
          try clear hcz19_6
          try clear hcz19_7
          try clear hcz19_8
          try clear hcz19_9
          try clear hfz11_0
          try clear hfz11_1
          try clear hfz11_2
          try clear hfz11_3
          try clear hfz11_4
          try clear hfz11_5
          try clear hfz11_6
          try clear hfz11_7
          try clear hfz11_8
          try clear hfz11_9
          try clear hfz13_0
          try clear hfz13_1
          try clear hfz13_2
          try clear hfz13_3
          try clear hfz13_4
          try clear hfz13_5
          try clear hfz13_6
          try clear hfz13_7
          try clear hfz13_8
          try clear hfz13_9
          try clear hfz19_0
          try clear hfz19_1
          try clear hfz19_2
          try clear hfz19_3
          try clear hfz19_4
          try clear hfz19_5
          try clear hfz19_6
          try clear hfz19_7
          try clear hfz19_8
          try clear hfz19_9
          try clear hx34_0
          try clear hx39_0
          try clear hx44_0
          try clear hx46_0
          try clear hx53_0
          try clear hx58_0
          try clear hx63_0
          try clear hx65_0
          try clear p2
          try clear p34
          try clear p39
          try clear p44
          try clear p46
          try clear p53
          try clear p58
          try clear p63
          try clear p65
          try clear q34
          try clear q39
          try clear q44
          try clear q46
          try clear q53
          try clear q58
          try clear q63
          try clear q65
          obtain ⟨kq, x7_29, x9_29, x10_29, rfl, rfl, HA, HJ29, HO_7, BK632, HB⟩ := hcut
          cases kq with
          | zero => exact absurd HA.out (by simp [quarrellaw20_ScriptSpoilt.j2])
          | succ kj29 =>
           have H := HA.out
           clear HA
           simp only [quarrellaw20_ScriptSpoilt.j2] at H
           replace H := Option.bind_eq_some_iff.mp H
           obtain ⟨⟨t668, t669, t670, t671, t672, t673, t674, t677, t680, t683, t686, t687⟩, A700, H⟩ := H
           replace H : (if t686 = x10_29 then (if t687 = x9_29 then (some ((wrap64 ((t680.length : Int) + (t674.length : Int))) == 0)) else (some false)) else (some false)) = some r := H
           have A70 := Aside0.mk A700
           clear A700
           by_cases c71 : t686 = x10_29
           ·rw [if_pos c71] at H
            have c71b0 : (t686 == x10_29) = true := beq_iff_eq.mpr c71
            have c71b1 : (t686 != x10_29) = false := bne_eq_false_iff_eq.mpr c71
            clear c71
            by_cases c72 : t687 = x9_29
            ·rw [if_pos c72] at H
             have c72b0 : (t687 == x9_29) = true := beq_iff_eq.mpr c72
             have c72b1 : (t687 != x9_29) = false := bne_eq_false_iff_eq.mpr c72
             clear c72
             obtain rfl := Option.some.inj H
             obtain ⟨Ao73, co73, eo73⟩ := Kd.R_slice HO_7.out
             subst eo73
             go_wp2_with (first | ((with_reducible refine gate_callee (f := 10) rfl ?_); refine goesL_ (some 79) rfl rfl Try.func10 (by kernel_rfl) rfl #[.slice Ao73 x7_29.length co73] rfl (by (try simp only [List.map_toArray, List.map_cons, List.map_nil]); first | done | rfl | (simp only [List.length_drop, List.length_take]; rfl)) ?_; (with_reducible refine (script_Get.calls kj29 _ _ x7_29 t668 t669 t670 t671 t672 t673 t674 t677 t680 t683 t686 t687 _ ?side1 ?side2 A70.out).mono ?_); (case side1 => repeat (first | exact (Kd.R_reads' HO_7.out).2.2 | (with_reducible refine Kd.C_alloc ?_ _) | (with_reducible refine Kd.C_drewN ?_ _) | (with_reducible refine Kd.C_drew ?_))); (case side2 => exact (Kd.R_reads' HO_7.out).2.1); rintro e w74 ⟨v675, v678, v681, v684, rfl, ho0, ho1, ho2, ho3, hb⟩; refine ⟨_, rfl, ?_⟩; have n0_ := Aside0.mk (Kd.R_elder' (by (with_reducible repeat (first | apply Kd.R_alloc | apply Kd.R_drewN | apply Kd.R_drew)); exact HO_7.out) (Kd.R_base ho1) hb); have n1_ := Aside0.mk (Kd.R_lower ho0 (below_size (by repeat (first | (with_reducible first | exact HB.out | apply below_alloc | apply pw_below_drewN | apply below_drew1 | refine below_set ?_ GE632.out) | exact HB.out)))); have n2_ := Aside0.mk (Kd.R_lower (Kd.R_new' ho1 (Kd.R_lt (by (with_reducible repeat (first | apply Kd.R_alloc | apply Kd.R_drewN | apply Kd.R_drew)); exact HO_7.out))) (below_size (by repeat (first | (with_reducible first | exact HB.out | apply below_alloc | apply pw_below_drewN | apply below_drew1 | refine below_set ?_ GE632.out) | exact HB.out)))); have n3_ := Aside0.mk (Kd.R_lower ho2 (below_size (by repeat (first | (with_reducible first | exact HB.out | apply below_alloc | apply pw_below_drewN | apply below_drew1 | refine below_set ?_ GE632.out) | exact HB.out)))); have n4_ := Aside0.mk (Kd.R_lower ho3 (below_size (by repeat (first | (with_reducible first | exact HB.out | apply below_alloc | apply pw_below_drewN | apply below_drew1 | refine below_set ?_ GE632.out) | exact HB.out)))); have n5_ := Aside0.mk (blk_below (g := gb632) (o := .cells #[.int .i64 a0_0, .int .i64 a0_1, .int .i64 a0_2, .int .i64 a0_3, .int .i64 a0_4, .int .i64 a0_5, .slice A0_6 l0_6.length c0_6, .slice A0_7 l0_7.length c0_7, .slice A0_8 l0_8.length c0_8, .slice A0_9 l0_9.length c0_9] 34 (0, 0)) (by (with_reducible repeat (first | refine blk_drewN ?_ _ | refine blk_drew ?_ | refine blk_alloc ?_ _)); exact BK632.out) hb); have n6_ := Aside0.mk (below_step (by repeat (first | (with_reducible first | exact HB.out | apply below_alloc | apply pw_below_drewN | apply below_drew1 | refine below_set ?_ GE632.out) | exact HB.out)) hb); clear HO_7; clear BK632; clear HB; have HO_7 := n0_; have HO676 := n1_; have HO679 := n2_; have HO682 := n3_; have HO685 := n4_; have BK632 := n5_; have HB := n6_; clear n0_ n1_ n2_ n3_ n4_ n5_ n6_; (try clear hb); (try clear hb2); (try clear hk); (try clear hi); (try clear ho0); (try clear ho1); (try clear ho2); (try clear ho3)) | ((with_reducible refine gate_dst (N := 11) rfl ?_); (try (refine gate_guard (by rfl) ?_; dsimp only)); refine box_event ?hg (N := 11) ?hd (cs := #[.int .i64 0, .int .i64 0, .int .i64 0, .int .i64 0, .int .i64 0, .int .i64 0, .slice none 0 0, .slice none 0 0, .slice none 0 0, .slice none 0 0]) (t := 30) ?hr ?_; (case hd => rfl); (case hg => rfl); (case hr => first | (go_simp; done) | (go_simp; rfl)); intro gb688 hg w75 hbox hb; have n0_ := Aside0.mk (Kd.R_below (by (with_reducible repeat (first | apply Kd.R_alloc | apply Kd.R_drewN | apply Kd.R_drew)); exact HO_7.out) hb); have n1_ := Aside0.mk (Kd.R_below (by (with_reducible repeat (first | apply Kd.R_alloc | apply Kd.R_drewN | apply Kd.R_drew)); exact HO676.out) hb); have n2_ := Aside0.mk (Kd.R_below (by (with_reducible repeat (first | apply Kd.R_alloc | apply Kd.R_drewN | apply Kd.R_drew)); exact HO679.out) hb); have n3_ := Aside0.mk (Kd.R_below (by (with_reducible repeat (first | apply Kd.R_alloc | apply Kd.R_drewN | apply Kd.R_drew)); exact HO682.out) hb); have n4_ := Aside0.mk (Kd.R_below (by (with_reducible repeat (first | apply Kd.R_alloc | apply Kd.R_drewN | apply Kd.R_drew)); exact HO685.out) hb); have n5_ := Aside0.mk (blk_below (g := gb632) (o := .cells #[.int .i64 a0_0, .int .i64 a0_1, .int .i64 a0_2, .int .i64 a0_3, .int .i64 a0_4, .int .i64 a0_5, .slice A0_6 l0_6.length c0_6, .slice A0_7 l0_7.length c0_7, .slice A0_8 l0_8.length c0_8, .slice A0_9 l0_9.length c0_9] 34 (0, 0)) (by (with_reducible repeat (first | refine blk_drewN ?_ _ | refine blk_drew ?_ | refine blk_alloc ?_ _)); exact BK632.out) hb); have n6_ := Aside0.mk (below_step (by repeat (first | (with_reducible first | exact HB.out | apply below_alloc | apply pw_below_drewN | apply below_drew1 | refine below_set ?_ GE632.out) | exact HB.out)) hb); have n7_ := Aside0.mk (hbox); have n8_ := Aside0.mk ((by rw [hg]; exact (below_size (by repeat (first | (with_reducible first | exact HB.out | apply below_alloc | apply pw_below_drewN | apply below_drew1 | refine below_set ?_ GE632.out) | exact HB.out))) : w.heap.size ≤ gb688)); have n9_ := Aside0.mk ((by rw [hg]; exact (below_size (by repeat (first | (with_reducible first | exact HB.out | apply below_alloc | apply pw_below_drewN | apply below_drew1 | refine below_set ?_ GE632.out) | exact HB.out))) : w.heap.size ≤ gb688)); have n10_ := Aside0.mk ((by rw [hg]; exact Nat.ne_of_lt (blk_lt (g := gb632) (o := .cells #[.int .i64 a0_0, .int .i64 a0_1, .int .i64 a0_2, .int .i64 a0_3, .int .i64 a0_4, .int .i64 a0_5, .slice A0_6 l0_6.length c0_6, .slice A0_7 l0_7.length c0_7, .slice A0_8 l0_8.length c0_8, .slice A0_9 l0_9.length c0_9] 34 (0, 0)) (by (with_reducible repeat (first | refine blk_drewN ?_ _ | refine blk_drew ?_ | refine blk_alloc ?_ _)); exact BK632.out)) : gb632 ≠ gb688)); have n11_ := Aside0.mk ((by rw [hg]; exact Nat.ne_of_gt (blk_lt (g := gb632) (o := .cells #[.int .i64 a0_0, .int .i64 a0_1, .int .i64 a0_2, .int .i64 a0_3, .int .i64 a0_4, .int .i64 a0_5, .slice A0_6 l0_6.length c0_6, .slice A0_7 l0_7.length c0_7, .slice A0_8 l0_8.length c0_8, .slice A0_9 l0_9.length c0_9] 34 (0, 0)) (by (with_reducible repeat (first | refine blk_drewN ?_ _ | refine blk_drew ?_ | refine blk_alloc ?_ _)); exact BK632.out)) : gb688 ≠ gb632)); clear HO_7; clear HO676; clear HO679; clear HO682; clear HO685; clear BK632; clear HB; have HO_7 := n0_; have HO676 := n1_; have HO679 := n2_; have HO682 := n3_; have HO685 := n4_; have BK632 := n5_; have HB := n6_; have BK688 := n7_; have GW688 := n8_; have GE688 := n9_; have NB632_688 := n10_; have NB688_632 := n11_; clear n0_ n1_ n2_ n3_ n4_ n5_ n6_ n7_ n8_ n9_ n10_ n11_; clear hb hbox hg; have hnb76 := NB688_632.out; have hnc76 := NB632_688.out; have hcz77_0 : w75.cell? ⟨gb688, 0, none⟩ = some (.int .i64 0) := (blk_cell BK688.out 0).trans rfl; have hcz77_1 : w75.cell? ⟨gb688, 1, none⟩ = some (.int .i64 0) := (blk_cell BK688.out 1).trans rfl; have hcz77_2 : w75.cell? ⟨gb688, 2, none⟩ = some (.int .i64 0) := (blk_cell BK688.out 2).trans rfl; have hcz77_3 : w75.cell? ⟨gb688, 3, none⟩ = some (.int .i64 0) := (blk_cell BK688.out 3).trans rfl; have hcz77_4 : w75.cell? ⟨gb688, 4, none⟩ = some (.int .i64 0) := (blk_cell BK688.out 4).trans rfl; have hcz77_5 : w75.cell? ⟨gb688, 5, none⟩ = some (.int .i64 0) := (blk_cell BK688.out 5).trans rfl; have hcz77_6 : w75.cell? ⟨gb688, 6, none⟩ = some (.slice none 0 0) := (blk_cell BK688.out 6).trans rfl; have hcz77_7 : w75.cell? ⟨gb688, 7, none⟩ = some (.slice none 0 0) := (blk_cell BK688.out 7).trans rfl; have hcz77_8 : w75.cell? ⟨gb688, 8, none⟩ = some (.slice none 0 0) := (blk_cell BK688.out 8).trans rfl; have hcz77_9 : w75.cell? ⟨gb688, 9, none⟩ = some (.slice none 0 0) := (blk_cell BK688.out 9).trans rfl; have hfz77_0 := blk_frozen BK688.out 0; have hfz77_1 := blk_frozen BK688.out 1; have hfz77_2 := blk_frozen BK688.out 2; have hfz77_3 := blk_frozen BK688.out 3; have hfz77_4 := blk_frozen BK688.out 4; have hfz77_5 := blk_frozen BK688.out 5; have hfz77_6 := blk_frozen BK688.out 6; have hfz77_7 := blk_frozen BK688.out 7; have hfz77_8 := blk_frozen BK688.out 8; have hfz77_9 := blk_frozen BK688.out 9; obtain ⟨Ao78, co78, eo78⟩ := Kd.R_slice HO676.out; subst eo78; obtain ⟨Ao79, co79, eo79⟩ := Kd.R_slice HO679.out; subst eo79; obtain ⟨Ao80, co80, eo80⟩ := Kd.R_slice HO682.out; subst eo80; obtain ⟨Ao81, co81, eo81⟩ := Kd.R_slice HO685.out; subst eo81) | ((with_reducible refine gate_store (t := 30) (p := 11) rfl ?_); refine store_event (t := 30) (p := 11) (v := ?vo_w82) (w1 := ((((((((((w75.setCell ⟨gb688, 0, none⟩ (.int .i64 t668)).setCell ⟨gb688, 1, none⟩ (.int .i64 t669)).setCell ⟨gb688, 2, none⟩ (.int .i64 t670)).setCell ⟨gb688, 3, none⟩ (.int .i64 t671)).setCell ⟨gb688, 4, none⟩ (.int .i64 t672)).setCell ⟨gb688, 5, none⟩ (.int .i64 t673)).setCell ⟨gb688, 6, none⟩ (.slice Ao78 t674.length co78)).setCell ⟨gb688, 7, none⟩ (.slice Ao79 t677.length co79)).setCell ⟨gb688, 8, none⟩ (.slice Ao80 t680.length co80)).setCell ⟨gb688, 9, none⟩ (.slice Ao81 t683.length co81))) ?hg ?ho ?hn ?hr ?_; (case ho => rfl); (case hg => rfl); (case hn => rfl); (case hr => first | (go_simp; done) | (go_simp; rfl)); intro w82 hw; have n0_ : Aside0 (Kd.R (Kd.int .u8) 5 w82 w.heap.size (fun k_ => some k_ ≠ (.slice Ao79 t677.length co79 : Value).ownBlock) (.slice Ao73 x7_29.length co73) x7_29) := ⟨(by rw [hw]; exact (by (with_reducible repeat (first | apply Kd.R_alloc | apply Kd.R_drewN | apply Kd.R_drew)); exact Kd.R_mono (Kd.R_far (p := ⟨gb688, 9, none⟩) (Kd.R_far (p := ⟨gb688, 8, none⟩) (Kd.R_far (p := ⟨gb688, 7, none⟩) (Kd.R_far (p := ⟨gb688, 6, none⟩) (Kd.R_far (p := ⟨gb688, 5, none⟩) (Kd.R_far (p := ⟨gb688, 4, none⟩) (Kd.R_far (p := ⟨gb688, 3, none⟩) (Kd.R_far (p := ⟨gb688, 2, none⟩) (Kd.R_far (p := ⟨gb688, 1, none⟩) (Kd.R_far (p := ⟨gb688, 0, none⟩) (Kd.R_types HO_7.out BK688.out (by decide)) (fun _ hk => hk.2) (.int .i64 t668)) (fun _ hk => hk.2) (.int .i64 t669)) (fun _ hk => hk.2) (.int .i64 t670)) (fun _ hk => hk.2) (.int .i64 t671)) (fun _ hk => hk.2) (.int .i64 t672)) (fun _ hk => hk.2) (.int .i64 t673)) (fun _ hk => hk.2) (.slice Ao78 t674.length co78)) (fun _ hk => hk.2) (.slice Ao79 t677.length co79)) (fun _ hk => hk.2) (.slice Ao80 t680.length co80)) (fun _ hk => hk.2) (.slice Ao81 t683.length co81)) (fun _ hk => hk.1.2)))⟩; have n1_ : Aside0 (Kd.R (Kd.int .i64) 2 w82 w.heap.size (fun _ => True) (.slice Ao78 t674.length co78) t674) := ⟨(by rw [hw]; exact (by (with_reducible repeat (first | apply Kd.R_alloc | apply Kd.R_drewN | apply Kd.R_drew)); exact Kd.R_mono (Kd.R_far (p := ⟨gb688, 9, none⟩) (Kd.R_far (p := ⟨gb688, 8, none⟩) (Kd.R_far (p := ⟨gb688, 7, none⟩) (Kd.R_far (p := ⟨gb688, 6, none⟩) (Kd.R_far (p := ⟨gb688, 5, none⟩) (Kd.R_far (p := ⟨gb688, 4, none⟩) (Kd.R_far (p := ⟨gb688, 3, none⟩) (Kd.R_far (p := ⟨gb688, 2, none⟩) (Kd.R_far (p := ⟨gb688, 1, none⟩) (Kd.R_far (p := ⟨gb688, 0, none⟩) (Kd.R_types HO676.out BK688.out (by decide)) (fun _ hk => hk.2) (.int .i64 t668)) (fun _ hk => hk.2) (.int .i64 t669)) (fun _ hk => hk.2) (.int .i64 t670)) (fun _ hk => hk.2) (.int .i64 t671)) (fun _ hk => hk.2) (.int .i64 t672)) (fun _ hk => hk.2) (.int .i64 t673)) (fun _ hk => hk.2) (.slice Ao78 t674.length co78)) (fun _ hk => hk.2) (.slice Ao79 t677.length co79)) (fun _ hk => hk.2) (.slice Ao80 t680.length co80)) (fun _ hk => hk.2) (.slice Ao81 t683.length co81)) (fun _ hk => trivial)))⟩; have n2_ : Aside0 (Kd.R (Kd.int .u8) 5 w82 w.heap.size (fun k_ => some k_ ≠ (.slice Ao73 x7_29.length co73 : Value).ownBlock) (.slice Ao79 t677.length co79) t677) := ⟨(by rw [hw]; exact (by (with_reducible repeat (first | apply Kd.R_alloc | apply Kd.R_drewN | apply Kd.R_drew)); exact Kd.R_mono (Kd.R_far (p := ⟨gb688, 9, none⟩) (Kd.R_far (p := ⟨gb688, 8, none⟩) (Kd.R_far (p := ⟨gb688, 7, none⟩) (Kd.R_far (p := ⟨gb688, 6, none⟩) (Kd.R_far (p := ⟨gb688, 5, none⟩) (Kd.R_far (p := ⟨gb688, 4, none⟩) (Kd.R_far (p := ⟨gb688, 3, none⟩) (Kd.R_far (p := ⟨gb688, 2, none⟩) (Kd.R_far (p := ⟨gb688, 1, none⟩) (Kd.R_far (p := ⟨gb688, 0, none⟩) (Kd.R_types HO679.out BK688.out (by decide)) (fun _ hk => hk.2) (.int .i64 t668)) (fun _ hk => hk.2) (.int .i64 t669)) (fun _ hk => hk.2) (.int .i64 t670)) (fun _ hk => hk.2) (.int .i64 t671)) (fun _ hk => hk.2) (.int .i64 t672)) (fun _ hk => hk.2) (.int .i64 t673)) (fun _ hk => hk.2) (.slice Ao78 t674.length co78)) (fun _ hk => hk.2) (.slice Ao79 t677.length co79)) (fun _ hk => hk.2) (.slice Ao80 t680.length co80)) (fun _ hk => hk.2) (.slice Ao81 t683.length co81)) (fun _ hk => hk.1.2)))⟩; have n3_ : Aside0 (Kd.R (Kd.slice 61 (Kd.slice 80 k80)) 60 w82 w.heap.size (fun _ => True) (.slice Ao80 t680.length co80) t680) := ⟨(by rw [hw]; exact (by (with_reducible repeat (first | apply Kd.R_alloc | apply Kd.R_drewN | apply Kd.R_drew)); exact Kd.R_mono (Kd.R_far (p := ⟨gb688, 9, none⟩) (Kd.R_far (p := ⟨gb688, 8, none⟩) (Kd.R_far (p := ⟨gb688, 7, none⟩) (Kd.R_far (p := ⟨gb688, 6, none⟩) (Kd.R_far (p := ⟨gb688, 5, none⟩) (Kd.R_far (p := ⟨gb688, 4, none⟩) (Kd.R_far (p := ⟨gb688, 3, none⟩) (Kd.R_far (p := ⟨gb688, 2, none⟩) (Kd.R_far (p := ⟨gb688, 1, none⟩) (Kd.R_far (p := ⟨gb688, 0, none⟩) (Kd.R_types HO682.out BK688.out (by decide)) (fun _ hk => hk.2) (.int .i64 t668)) (fun _ hk => hk.2) (.int .i64 t669)) (fun _ hk => hk.2) (.int .i64 t670)) (fun _ hk => hk.2) (.int .i64 t671)) (fun _ hk => hk.2) (.int .i64 t672)) (fun _ hk => hk.2) (.int .i64 t673)) (fun _ hk => hk.2) (.slice Ao78 t674.length co78)) (fun _ hk => hk.2) (.slice Ao79 t677.length co79)) (fun _ hk => hk.2) (.slice Ao80 t680.length co80)) (fun _ hk => hk.2) (.slice Ao81 t683.length co81)) (fun _ hk => trivial)))⟩; have n4_ : Aside0 (Kd.R (Kd.int .i64) 3 w82 w.heap.size (fun _ => True) (.slice Ao81 t683.length co81) t683) := ⟨(by rw [hw]; exact (by (with_reducible repeat (first | apply Kd.R_alloc | apply Kd.R_drewN | apply Kd.R_drew)); exact Kd.R_mono (Kd.R_far (p := ⟨gb688, 9, none⟩) (Kd.R_far (p := ⟨gb688, 8, none⟩) (Kd.R_far (p := ⟨gb688, 7, none⟩) (Kd.R_far (p := ⟨gb688, 6, none⟩) (Kd.R_far (p := ⟨gb688, 5, none⟩) (Kd.R_far (p := ⟨gb688, 4, none⟩) (Kd.R_far (p := ⟨gb688, 3, none⟩) (Kd.R_far (p := ⟨gb688, 2, none⟩) (Kd.R_far (p := ⟨gb688, 1, none⟩) (Kd.R_far (p := ⟨gb688, 0, none⟩) (Kd.R_types HO685.out BK688.out (by decide)) (fun _ hk => hk.2) (.int .i64 t668)) (fun _ hk => hk.2) (.int .i64 t669)) (fun _ hk => hk.2) (.int .i64 t670)) (fun _ hk => hk.2) (.int .i64 t671)) (fun _ hk => hk.2) (.int .i64 t672)) (fun _ hk => hk.2) (.int .i64 t673)) (fun _ hk => hk.2) (.slice Ao78 t674.length co78)) (fun _ hk => hk.2) (.slice Ao79 t677.length co79)) (fun _ hk => hk.2) (.slice Ao80 t680.length co80)) (fun _ hk => hk.2) (.slice Ao81 t683.length co81)) (fun _ hk => trivial)))⟩; have n5_ : Aside0 (w82.heap[gb632]? = some (.cells #[.int .i64 a0_0, .int .i64 a0_1, .int .i64 a0_2, .int .i64 a0_3, .int .i64 a0_4, .int .i64 a0_5, .slice A0_6 l0_6.length c0_6, .slice A0_7 l0_7.length c0_7, .slice A0_8 l0_8.length c0_8, .slice A0_9 l0_9.length c0_9] 34 (0, 0))) := ⟨(by rw [hw]; exact (by (with_reducible repeat (first | refine blk_drewN ?_ _ | refine blk_drew ?_ | refine blk_alloc ?_ _)); refine blk_far ?_ NB632_688.out _; (with_reducible repeat (first | refine blk_drewN ?_ _ | refine blk_drew ?_ | refine blk_alloc ?_ _)); refine blk_far ?_ NB632_688.out _; (with_reducible repeat (first | refine blk_drewN ?_ _ | refine blk_drew ?_ | refine blk_alloc ?_ _)); refine blk_far ?_ NB632_688.out _; (with_reducible repeat (first | refine blk_drewN ?_ _ | refine blk_drew ?_ | refine blk_alloc ?_ _)); refine blk_far ?_ NB632_688.out _; (with_reducible repeat (first | refine blk_drewN ?_ _ | refine blk_drew ?_ | refine blk_alloc ?_ _)); refine blk_far ?_ NB632_688.out _; (with_reducible repeat (first | refine blk_drewN ?_ _ | refine blk_drew ?_ | refine blk_alloc ?_ _)); refine blk_far ?_ NB632_688.out _; (with_reducible repeat (first | refine blk_drewN ?_ _ | refine blk_drew ?_ | refine blk_alloc ?_ _)); refine blk_far ?_ NB632_688.out _; (with_reducible repeat (first | refine blk_drewN ?_ _ | refine blk_drew ?_ | refine blk_alloc ?_ _)); refine blk_far ?_ NB632_688.out _; (with_reducible repeat (first | refine blk_drewN ?_ _ | refine blk_drew ?_ | refine blk_alloc ?_ _)); refine blk_far ?_ NB632_688.out _; (with_reducible repeat (first | refine blk_drewN ?_ _ | refine blk_drew ?_ | refine blk_alloc ?_ _)); refine blk_far ?_ NB632_688.out _; (with_reducible repeat (first | refine blk_drewN ?_ _ | refine blk_drew ?_ | refine blk_alloc ?_ _)); exact BK632.out))⟩; have n6_ : Aside0 (w82.heap[gb688]? = some (.cells #[.int .i64 t668, .int .i64 t669, .int .i64 t670, .int .i64 t671, .int .i64 t672, .int .i64 t673, .slice Ao78 t674.length co78, .slice Ao79 t677.length co79, .slice Ao80 t680.length co80, .slice Ao81 t683.length co81] 30 (0, 0))) := ⟨(by rw [hw]; exact (by (with_reducible repeat (first | refine blk_drewN ?_ _ | refine blk_drew ?_ | refine blk_alloc ?_ _)); refine blk_put (cs := #[.int .i64 t668, .int .i64 t669, .int .i64 t670, .int .i64 t671, .int .i64 t672, .int .i64 t673, .slice Ao78 t674.length co78, .slice Ao79 t677.length co79, .slice Ao80 t680.length co80, .slice none 0 0]) ?_ 9 _ rfl; (with_reducible repeat (first | refine blk_drewN ?_ _ | refine blk_drew ?_ | refine blk_alloc ?_ _)); refine blk_put (cs := #[.int .i64 t668, .int .i64 t669, .int .i64 t670, .int .i64 t671, .int .i64 t672, .int .i64 t673, .slice Ao78 t674.length co78, .slice Ao79 t677.length co79, .slice none 0 0, .slice none 0 0]) ?_ 8 _ rfl; (with_reducible repeat (first | refine blk_drewN ?_ _ | refine blk_drew ?_ | refine blk_alloc ?_ _)); refine blk_put (cs := #[.int .i64 t668, .int .i64 t669, .int .i64 t670, .int .i64 t671, .int .i64 t672, .int .i64 t673, .slice Ao78 t674.length co78, .slice none 0 0, .slice none 0 0, .slice none 0 0]) ?_ 7 _ rfl; (with_reducible repeat (first | refine blk_drewN ?_ _ | refine blk_drew ?_ | refine blk_alloc ?_ _)); refine blk_put (cs := #[.int .i64 t668, .int .i64 t669, .int .i64 t670, .int .i64 t671, .int .i64 t672, .int .i64 t673, .slice none 0 0, .slice none 0 0, .slice none 0 0, .slice none 0 0]) ?_ 6 _ rfl; (with_reducible repeat (first | refine blk_drewN ?_ _ | refine blk_drew ?_ | refine blk_alloc ?_ _)); refine blk_put (cs := #[.int .i64 t668, .int .i64 t669, .int .i64 t670, .int .i64 t671, .int .i64 t672, .int .i64 0, .slice none 0 0, .slice none 0 0, .slice none 0 0, .slice none 0 0]) ?_ 5 _ rfl; (with_reducible repeat (first | refine blk_drewN ?_ _ | refine blk_drew ?_ | refine blk_alloc ?_ _)); refine blk_put (cs := #[.int .i64 t668, .int .i64 t669, .int .i64 t670, .int .i64 t671, .int .i64 0, .int .i64 0, .slice none 0 0, .slice none 0 0, .slice none 0 0, .slice none 0 0]) ?_ 4 _ rfl; (with_reducible repeat (first | refine blk_drewN ?_ _ | refine blk_drew ?_ | refine blk_alloc ?_ _)); refine blk_put (cs := #[.int .i64 t668, .int .i64 t669, .int .i64 t670, .int .i64 0, .int .i64 0, .int .i64 0, .slice none 0 0, .slice none 0 0, .slice none 0 0, .slice none 0 0]) ?_ 3 _ rfl; (with_reducible repeat (first | refine blk_drewN ?_ _ | refine blk_drew ?_ | refine blk_alloc ?_ _)); refine blk_put (cs := #[.int .i64 t668, .int .i64 t669, .int .i64 0, .int .i64 0, .int .i64 0, .int .i64 0, .slice none 0 0, .slice none 0 0, .slice none 0 0, .slice none 0 0]) ?_ 2 _ rfl; (with_reducible repeat (first | refine blk_drewN ?_ _ | refine blk_drew ?_ | refine blk_alloc ?_ _)); refine blk_put (cs := #[.int .i64 t668, .int .i64 0, .int .i64 0, .int .i64 0, .int .i64 0, .int .i64 0, .slice none 0 0, .slice none 0 0, .slice none 0 0, .slice none 0 0]) ?_ 1 _ rfl; (with_reducible repeat (first | refine blk_drewN ?_ _ | refine blk_drew ?_ | refine blk_alloc ?_ _)); refine blk_put (cs := #[.int .i64 0, .int .i64 0, .int .i64 0, .int .i64 0, .int .i64 0, .int .i64 0, .slice none 0 0, .slice none 0 0, .slice none 0 0, .slice none 0 0]) ?_ 0 _ rfl; (with_reducible repeat (first | refine blk_drewN ?_ _ | refine blk_drew ?_ | refine blk_alloc ?_ _)); exact BK688.out))⟩; have n7_ : Aside0 (Below w.heap.size w w82) := ⟨(by rw [hw]; exact (by repeat (first | (with_reducible first | exact HB.out | apply below_alloc | apply pw_below_drewN | apply below_drew1 | refine below_set ?_ GE632.out | refine below_set ?_ GE688.out) | exact HB.out)))⟩; clear hw; clear HO_7; clear HO676; clear HO679; clear HO682; clear HO685; clear BK632; clear BK688; clear HB; have HO_7 := n0_; have HO676 := n1_; have HO679 := n2_; have HO682 := n3_; have HO685 := n4_; have BK632 := n5_; have BK688 := n6_; have HB := n7_; clear n0_ n1_ n2_ n3_ n4_ n5_ n6_ n7_; have hcz83_0 : w82.cell? ⟨gb688, 0, none⟩ = some (.int .i64 t668) := (blk_cell BK688.out 0).trans rfl; have hcz83_1 : w82.cell? ⟨gb688, 1, none⟩ = some (.int .i64 t669) := (blk_cell BK688.out 1).trans rfl; have hcz83_2 : w82.cell? ⟨gb688, 2, none⟩ = some (.int .i64 t670) := (blk_cell BK688.out 2).trans rfl; have hcz83_3 : w82.cell? ⟨gb688, 3, none⟩ = some (.int .i64 t671) := (blk_cell BK688.out 3).trans rfl; have hcz83_4 : w82.cell? ⟨gb688, 4, none⟩ = some (.int .i64 t672) := (blk_cell BK688.out 4).trans rfl; have hcz83_5 : w82.cell? ⟨gb688, 5, none⟩ = some (.int .i64 t673) := (blk_cell BK688.out 5).trans rfl; have hcz83_6 : w82.cell? ⟨gb688, 6, none⟩ = some (.slice Ao78 t674.length co78) := (blk_cell BK688.out 6).trans rfl; have hcz83_7 : w82.cell? ⟨gb688, 7, none⟩ = some (.slice Ao79 t677.length co79) := (blk_cell BK688.out 7).trans rfl; have hcz83_8 : w82.cell? ⟨gb688, 8, none⟩ = some (.slice Ao80 t680.length co80) := (blk_cell BK688.out 8).trans rfl; have hcz83_9 : w82.cell? ⟨gb688, 9, none⟩ = some (.slice Ao81 t683.length co81) := (blk_cell BK688.out 9).trans rfl; have hfz83_0 := blk_frozen BK688.out 0; have hfz83_1 := blk_frozen BK688.out 1; have hfz83_2 := blk_frozen BK688.out 2; have hfz83_3 := blk_frozen BK688.out 3; have hfz83_4 := blk_frozen BK688.out 4; have hfz83_5 := blk_frozen BK688.out 5; have hfz83_6 := blk_frozen BK688.out 6; have hfz83_7 := blk_frozen BK688.out 7; have hfz83_8 := blk_frozen BK688.out 8; have hfz83_9 := blk_frozen BK688.out 9))
             go_ret
             exact ⟨by first | rfl | (simp [errW_none, errW_some] <;> rfl) | (simp [*, errW_none, errW_some] <;> rfl), by repeat (first | (with_reducible first | exact HB.out | apply below_alloc | apply pw_below_drewN | apply below_drew1 | refine below_set ?_ GE632.out | refine below_set ?_ GE688.out) | exact HB.out)⟩
            ·rw [if_neg c72] at H
             have c72b0 : (t687 == x9_29) = false := beq_eq_false_iff_ne.mpr c72
             have c72b1 : (t687 != x9_29) = true := bne_iff_ne.mpr c72
             obtain rfl := Option.some.inj H
             obtain ⟨Ao84, co84, eo84⟩ := Kd.R_slice HO_7.out
             subst eo84
             go_wp2_with (first | ((with_reducible refine gate_callee (f := 10) rfl ?_); refine goesL_ (some 79) rfl rfl Try.func10 (by kernel_rfl) rfl #[.slice Ao84 x7_29.length co84] rfl (by (try simp only [List.map_toArray, List.map_cons, List.map_nil]); first | done | rfl | (simp only [List.length_drop, List.length_take]; rfl)) ?_; (with_reducible refine (script_Get.calls kj29 _ _ x7_29 t668 t669 t670 t671 t672 t673 t674 t677 t680 t683 t686 t687 _ ?side1 ?side2 A70.out).mono ?_); (case side1 => repeat (first | exact (Kd.R_reads' HO_7.out).2.2 | (with_reducible refine Kd.C_alloc ?_ _) | (with_reducible refine Kd.C_drewN ?_ _) | (with_reducible refine Kd.C_drew ?_))); (case side2 => exact (Kd.R_reads' HO_7.out).2.1); rintro e w85 ⟨v675, v678, v681, v684, rfl, ho0, ho1, ho2, ho3, hb⟩; refine ⟨_, rfl, ?_⟩; have n0_ := Aside0.mk (Kd.R_elder' (by (with_reducible repeat (first | apply Kd.R_alloc | apply Kd.R_drewN | apply Kd.R_drew)); exact HO_7.out) (Kd.R_base ho1) hb); have n1_ := Aside0.mk (Kd.R_lower ho0 (below_size (by repeat (first | (with_reducible first | exact HB.out | apply below_alloc | apply pw_below_drewN | apply below_drew1 | refine below_set ?_ GE632.out) | exact HB.out)))); have n2_ := Aside0.mk (Kd.R_lower (Kd.R_new' ho1 (Kd.R_lt (by (with_reducible repeat (first | apply Kd.R_alloc | apply Kd.R_drewN | apply Kd.R_drew)); exact HO_7.out))) (below_size (by repeat (first | (with_reducible first | exact HB.out | apply below_alloc | apply pw_below_drewN | apply below_drew1 | refine below_set ?_ GE632.out) | exact HB.out)))); have n3_ := Aside0.mk (Kd.R_lower ho2 (below_size (by repeat (first | (with_reducible first | exact HB.out | apply below_alloc | apply pw_below_drewN | apply below_drew1 | refine below_set ?_ GE632.out) | exact HB.out)))); have n4_ := Aside0.mk (Kd.R_lower ho3 (below_size (by repeat (first | (with_reducible first | exact HB.out | apply below_alloc | apply pw_below_drewN | apply below_drew1 | refine below_set ?_ GE632.out) | exact HB.out)))); have n5_ := Aside0.mk (blk_below (g := gb632) (o := .cells #[.int .i64 a0_0, .int .i64 a0_1, .int .i64 a0_2, .int .i64 a0_3, .int .i64 a0_4, .int .i64 a0_5, .slice A0_6 l0_6.length c0_6, .slice A0_7 l0_7.length c0_7, .slice A0_8 l0_8.length c0_8, .slice A0_9 l0_9.length c0_9] 34 (0, 0)) (by (with_reducible repeat (first | refine blk_drewN ?_ _ | refine blk_drew ?_ | refine blk_alloc ?_ _)); exact BK632.out) hb); have n6_ := Aside0.mk (below_step (by repeat (first | (with_reducible first | exact HB.out | apply below_alloc | apply pw_below_drewN | apply below_drew1 | refine below_set ?_ GE632.out) | exact HB.out)) hb); clear HO_7; clear BK632; clear HB; have HO_7 := n0_; have HO676 := n1_; have HO679 := n2_; have HO682 := n3_; have HO685 := n4_; have BK632 := n5_; have HB := n6_; clear n0_ n1_ n2_ n3_ n4_ n5_ n6_; (try clear hb); (try clear hb2); (try clear hk); (try clear hi); (try clear ho0); (try clear ho1); (try clear ho2); (try clear ho3)) | ((with_reducible refine gate_dst (N := 11) rfl ?_); (try (refine gate_guard (by rfl) ?_; dsimp only)); refine box_event ?hg (N := 11) ?hd (cs := #[.int .i64 0, .int .i64 0, .int .i64 0, .int .i64 0, .int .i64 0, .int .i64 0, .slice none 0 0, .slice none 0 0, .slice none 0 0, .slice none 0 0]) (t := 30) ?hr ?_; (case hd => rfl); (case hg => rfl); (case hr => first | (go_simp; done) | (go_simp; rfl)); intro gb688 hg w86 hbox hb; have n0_ := Aside0.mk (Kd.R_below (by (with_reducible repeat (first | apply Kd.R_alloc | apply Kd.R_drewN | apply Kd.R_drew)); exact HO_7.out) hb); have n1_ := Aside0.mk (Kd.R_below (by (with_reducible repeat (first | apply Kd.R_alloc | apply Kd.R_drewN | apply Kd.R_drew)); exact HO676.out) hb); have n2_ := Aside0.mk (Kd.R_below (by (with_reducible repeat (first | apply Kd.R_alloc | apply Kd.R_drewN | apply Kd.R_drew)); exact HO679.out) hb); have n3_ := Aside0.mk (Kd.R_below (by (with_reducible repeat (first | apply Kd.R_alloc | apply Kd.R_drewN | apply Kd.R_drew)); exact HO682.out) hb); have n4_ := Aside0.mk (Kd.R_below (by (with_reducible repeat (first | apply Kd.R_alloc | apply Kd.R_drewN | apply Kd.R_drew)); exact HO685.out) hb); have n5_ := Aside0.mk (blk_below (g := gb632) (o := .cells #[.int .i64 a0_0, .int .i64 a0_1, .int .i64 a0_2, .int .i64 a0_3, .int .i64 a0_4, .int .i64 a0_5, .slice A0_6 l0_6.length c0_6, .slice A0_7 l0_7.length c0_7, .slice A0_8 l0_8.length c0_8, .slice A0_9 l0_9.length c0_9] 34 (0, 0)) (by (with_reducible repeat (first | refine blk_drewN ?_ _ | refine blk_drew ?_ | refine blk_alloc ?_ _)); exact BK632.out) hb); have n6_ := Aside0.mk (below_step (by repeat (first | (with_reducible first | exact HB.out | apply below_alloc | apply pw_below_drewN | apply below_drew1 | refine below_set ?_ GE632.out) | exact HB.out)) hb); have n7_ := Aside0.mk (hbox); have n8_ := Aside0.mk ((by rw [hg]; exact (below_size (by repeat (first | (with_reducible first | exact HB.out | apply below_alloc | apply pw_below_drewN | apply below_drew1 | refine below_set ?_ GE632.out) | exact HB.out))) : w.heap.size ≤ gb688)); have n9_ := Aside0.mk ((by rw [hg]; exact (below_size (by repeat (first | (with_reducible first | exact HB.out | apply below_alloc | apply pw_below_drewN | apply below_drew1 | refine below_set ?_ GE632.out) | exact HB.out))) : w.heap.size ≤ gb688)); have n10_ := Aside0.mk ((by rw [hg]; exact Nat.ne_of_lt (blk_lt (g := gb632) (o := .cells #[.int .i64 a0_0, .int .i64 a0_1, .int .i64 a0_2, .int .i64 a0_3, .int .i64 a0_4, .int .i64 a0_5, .slice A0_6 l0_6.length c0_6, .slice A0_7 l0_7.length c0_7, .slice A0_8 l0_8.length c0_8, .slice A0_9 l0_9.length c0_9] 34 (0, 0)) (by (with_reducible repeat (first | refine blk_drewN ?_ _ | refine blk_drew ?_ | refine blk_alloc ?_ _)); exact BK632.out)) : gb632 ≠ gb688)); have n11_ := Aside0.mk ((by rw [hg]; exact Nat.ne_of_gt (blk_lt (g := gb632) (o := .cells #[.int .i64 a0_0, .int .i64 a0_1, .int .i64 a0_2, .int .i64 a0_3, .int .i64 a0_4, .int .i64 a0_5, .slice A0_6 l0_6.length c0_6, .slice A0_7 l0_7.length c0_7, .slice A0_8 l0_8.length c0_8, .slice A0_9 l0_9.length c0_9] 34 (0, 0)) (by (with_reducible repeat (first | refine blk_drewN ?_ _ | refine blk_drew ?_ | refine blk_alloc ?_ _)); exact BK632.out)) : gb688 ≠ gb632)); clear HO_7; clear HO676; clear HO679; clear HO682; clear HO685; clear BK632; clear HB; have HO_7 := n0_; have HO676 := n1_; have HO679 := n2_; have HO682 := n3_; have HO685 := n4_; have BK632 := n5_; have HB := n6_; have BK688 := n7_; have GW688 := n8_; have GE688 := n9_; have NB632_688 := n10_; have NB688_632 := n11_; clear n0_ n1_ n2_ n3_ n4_ n5_ n6_ n7_ n8_ n9_ n10_ n11_; clear hb hbox hg; have hnb87 := NB688_632.out; have hnc87 := NB632_688.out; have hcz88_0 : w86.cell? ⟨gb688, 0, none⟩ = some (.int .i64 0) := (blk_cell BK688.out 0).trans rfl; have hcz88_1 : w86.cell? ⟨gb688, 1, none⟩ = some (.int .i64 0) := (blk_cell BK688.out 1).trans rfl; have hcz88_2 : w86.cell? ⟨gb688, 2, none⟩ = some (.int .i64 0) := (blk_cell BK688.out 2).trans rfl; have hcz88_3 : w86.cell? ⟨gb688, 3, none⟩ = some (.int .i64 0) := (blk_cell BK688.out 3).trans rfl; have hcz88_4 : w86.cell? ⟨gb688, 4, none⟩ = some (.int .i64 0) := (blk_cell BK688.out 4).trans rfl; have hcz88_5 : w86.cell? ⟨gb688, 5, none⟩ = some (.int .i64 0) := (blk_cell BK688.out 5).trans rfl; have hcz88_6 : w86.cell? ⟨gb688, 6, none⟩ = some (.slice none 0 0) := (blk_cell BK688.out 6).trans rfl; have hcz88_7 : w86.cell? ⟨gb688, 7, none⟩ = some (.slice none 0 0) := (blk_cell BK688.out 7).trans rfl; have hcz88_8 : w86.cell? ⟨gb688, 8, none⟩ = some (.slice none 0 0) := (blk_cell BK688.out 8).trans rfl; have hcz88_9 : w86.cell? ⟨gb688, 9, none⟩ = some (.slice none 0 0) := (blk_cell BK688.out 9).trans rfl; have hfz88_0 := blk_frozen BK688.out 0; have hfz88_1 := blk_frozen BK688.out 1; have hfz88_2 := blk_frozen BK688.out 2; have hfz88_3 := blk_frozen BK688.out 3; have hfz88_4 := blk_frozen BK688.out 4; have hfz88_5 := blk_frozen BK688.out 5; have hfz88_6 := blk_frozen BK688.out 6; have hfz88_7 := blk_frozen BK688.out 7; have hfz88_8 := blk_frozen BK688.out 8; have hfz88_9 := blk_frozen BK688.out 9; obtain ⟨Ao89, co89, eo89⟩ := Kd.R_slice HO676.out; subst eo89; obtain ⟨Ao90, co90, eo90⟩ := Kd.R_slice HO679.out; subst eo90; obtain ⟨Ao91, co91, eo91⟩ := Kd.R_slice HO682.out; subst eo91; obtain ⟨Ao92, co92, eo92⟩ := Kd.R_slice HO685.out; subst eo92) | ((with_reducible refine gate_store (t := 30) (p := 11) rfl ?_); refine store_event (t := 30) (p := 11) (v := ?vo_w93) (w1 := ((((((((((w86.setCell ⟨gb688, 0, none⟩ (.int .i64 t668)).setCell ⟨gb688, 1, none⟩ (.int .i64 t669)).setCell ⟨gb688, 2, none⟩ (.int .i64 t670)).setCell ⟨gb688, 3, none⟩ (.int .i64 t671)).setCell ⟨gb688, 4, none⟩ (.int .i64 t672)).setCell ⟨gb688, 5, none⟩ (.int .i64 t673)).setCell ⟨gb688, 6, none⟩ (.slice Ao89 t674.length co89)).setCell ⟨gb688, 7, none⟩ (.slice Ao90 t677.length co90)).setCell ⟨gb688, 8, none⟩ (.slice Ao91 t680.length co91)).setCell ⟨gb688, 9, none⟩ (.slice Ao92 t683.length co92))) ?hg ?ho ?hn ?hr ?_; (case ho => rfl); (case hg => rfl); (case hn => rfl); (case hr => first | (go_simp; done) | (go_simp; rfl)); intro w93 hw; have n0_ : Aside0 (Kd.R (Kd.int .u8) 5 w93 w.heap.size (fun k_ => some k_ ≠ (.slice Ao90 t677.length co90 : Value).ownBlock) (.slice Ao84 x7_29.length co84) x7_29) := ⟨(by rw [hw]; exact (by (with_reducible repeat (first | apply Kd.R_alloc | apply Kd.R_drewN | apply Kd.R_drew)); exact Kd.R_mono (Kd.R_far (p := ⟨gb688, 9, none⟩) (Kd.R_far (p := ⟨gb688, 8, none⟩) (Kd.R_far (p := ⟨gb688, 7, none⟩) (Kd.R_far (p := ⟨gb688, 6, none⟩) (Kd.R_far (p := ⟨gb688, 5, none⟩) (Kd.R_far (p := ⟨gb688, 4, none⟩) (Kd.R_far (p := ⟨gb688, 3, none⟩) (Kd.R_far (p := ⟨gb688, 2, none⟩) (Kd.R_far (p := ⟨gb688, 1, none⟩) (Kd.R_far (p := ⟨gb688, 0, none⟩) (Kd.R_types HO_7.out BK688.out (by decide)) (fun _ hk => hk.2) (.int .i64 t668)) (fun _ hk => hk.2) (.int .i64 t669)) (fun _ hk => hk.2) (.int .i64 t670)) (fun _ hk => hk.2) (.int .i64 t671)) (fun _ hk => hk.2) (.int .i64 t672)) (fun _ hk => hk.2) (.int .i64 t673)) (fun _ hk => hk.2) (.slice Ao89 t674.length co89)) (fun _ hk => hk.2) (.slice Ao90 t677.length co90)) (fun _ hk => hk.2) (.slice Ao91 t680.length co91)) (fun _ hk => hk.2) (.slice Ao92 t683.length co92)) (fun _ hk => hk.1.2)))⟩; have n1_ : Aside0 (Kd.R (Kd.int .i64) 2 w93 w.heap.size (fun _ => True) (.slice Ao89 t674.length co89) t674) := ⟨(by rw [hw]; exact (by (with_reducible repeat (first | apply Kd.R_alloc | apply Kd.R_drewN | apply Kd.R_drew)); exact Kd.R_mono (Kd.R_far (p := ⟨gb688, 9, none⟩) (Kd.R_far (p := ⟨gb688, 8, none⟩) (Kd.R_far (p := ⟨gb688, 7, none⟩) (Kd.R_far (p := ⟨gb688, 6, none⟩) (Kd.R_far (p := ⟨gb688, 5, none⟩) (Kd.R_far (p := ⟨gb688, 4, none⟩) (Kd.R_far (p := ⟨gb688, 3, none⟩) (Kd.R_far (p := ⟨gb688, 2, none⟩) (Kd.R_far (p := ⟨gb688, 1, none⟩) (Kd.R_far (p := ⟨gb688, 0, none⟩) (Kd.R_types HO676.out BK688.out (by decide)) (fun _ hk => hk.2) (.int .i64 t668)) (fun _ hk => hk.2) (.int .i64 t669)) (fun _ hk => hk.2) (.int .i64 t670)) (fun _ hk => hk.2) (.int .i64 t671)) (fun _ hk => hk.2) (.int .i64 t672)) (fun _ hk => hk.2) (.int .i64 t673)) (fun _ hk => hk.2) (.slice Ao89 t674.length co89)) (fun _ hk => hk.2) (.slice Ao90 t677.length co90)) (fun _ hk => hk.2) (.slice Ao91 t680.length co91)) (fun _ hk => hk.2) (.slice Ao92 t683.length co92)) (fun _ hk => trivial)))⟩; have n2_ : Aside0 (Kd.R (Kd.int .u8) 5 w93 w.heap.size (fun k_ => some k_ ≠ (.slice Ao84 x7_29.length co84 : Value).ownBlock) (.slice Ao90 t677.length co90) t677) := ⟨(by rw [hw]; exact (by (with_reducible repeat (first | apply Kd.R_alloc | apply Kd.R_drewN | apply Kd.R_drew)); exact Kd.R_mono (Kd.R_far (p := ⟨gb688, 9, none⟩) (Kd.R_far (p := ⟨gb688, 8, none⟩) (Kd.R_far (p := ⟨gb688, 7, none⟩) (Kd.R_far (p := ⟨gb688, 6, none⟩) (Kd.R_far (p := ⟨gb688, 5, none⟩) (Kd.R_far (p := ⟨gb688, 4, none⟩) (Kd.R_far (p := ⟨gb688, 3, none⟩) (Kd.R_far (p := ⟨gb688, 2, none⟩) (Kd.R_far (p := ⟨gb688, 1, none⟩) (Kd.R_far (p := ⟨gb688, 0, none⟩) (Kd.R_types HO679.out BK688.out (by decide)) (fun _ hk => hk.2) (.int .i64 t668)) (fun _ hk => hk.2) (.int .i64 t669)) (fun _ hk => hk.2) (.int .i64 t670)) (fun _ hk => hk.2) (.int .i64 t671)) (fun _ hk => hk.2) (.int .i64 t672)) (fun _ hk => hk.2) (.int .i64 t673)) (fun _ hk => hk.2) (.slice Ao89 t674.length co89)) (fun _ hk => hk.2) (.slice Ao90 t677.length co90)) (fun _ hk => hk.2) (.slice Ao91 t680.length co91)) (fun _ hk => hk.2) (.slice Ao92 t683.length co92)) (fun _ hk => hk.1.2)))⟩; have n3_ : Aside0 (Kd.R (Kd.slice 61 (Kd.slice 80 k80)) 60 w93 w.heap.size (fun _ => True) (.slice Ao91 t680.length co91) t680) := ⟨(by rw [hw]; exact (by (with_reducible repeat (first | apply Kd.R_alloc | apply Kd.R_drewN | apply Kd.R_drew)); exact Kd.R_mono (Kd.R_far (p := ⟨gb688, 9, none⟩) (Kd.R_far (p := ⟨gb688, 8, none⟩) (Kd.R_far (p := ⟨gb688, 7, none⟩) (Kd.R_far (p := ⟨gb688, 6, none⟩) (Kd.R_far (p := ⟨gb688, 5, none⟩) (Kd.R_far (p := ⟨gb688, 4, none⟩) (Kd.R_far (p := ⟨gb688, 3, none⟩) (Kd.R_far (p := ⟨gb688, 2, none⟩) (Kd.R_far (p := ⟨gb688, 1, none⟩) (Kd.R_far (p := ⟨gb688, 0, none⟩) (Kd.R_types HO682.out BK688.out (by decide)) (fun _ hk => hk.2) (.int .i64 t668)) (fun _ hk => hk.2) (.int .i64 t669)) (fun _ hk => hk.2) (.int .i64 t670)) (fun _ hk => hk.2) (.int .i64 t671)) (fun _ hk => hk.2) (.int .i64 t672)) (fun _ hk => hk.2) (.int .i64 t673)) (fun _ hk => hk.2) (.slice Ao89 t674.length co89)) (fun _ hk => hk.2) (.slice Ao90 t677.length co90)) (fun _ hk => hk.2) (.slice Ao91 t680.length co91)) (fun _ hk => hk.2) (.slice Ao92 t683.length co92)) (fun _ hk => trivial)))⟩; have n4_ : Aside0 (Kd.R (Kd.int .i64) 3 w93 w.heap.size (fun _ => True) (.slice Ao92 t683.length co92) t683) := ⟨(by rw [hw]; exact (by (with_reducible repeat (first | apply Kd.R_alloc | apply Kd.R_drewN | apply Kd.R_drew)); exact Kd.R_mono (Kd.R_far (p := ⟨gb688, 9, none⟩) (Kd.R_far (p := ⟨gb688, 8, none⟩) (Kd.R_far (p := ⟨gb688, 7, none⟩) (Kd.R_far (p := ⟨gb688, 6, none⟩) (Kd.R_far (p := ⟨gb688, 5, none⟩) (Kd.R_far (p := ⟨gb688, 4, none⟩) (Kd.R_far (p := ⟨gb688, 3, none⟩) (Kd.R_far (p := ⟨gb688, 2, none⟩) (Kd.R_far (p := ⟨gb688, 1, none⟩) (Kd.R_far (p := ⟨gb688, 0, none⟩) (Kd.R_types HO685.out BK688.out (by decide)) (fun _ hk => hk.2) (.int .i64 t668)) (fun _ hk => hk.2) (.int .i64 t669)) (fun _ hk => hk.2) (.int .i64 t670)) (fun _ hk => hk.2) (.int .i64 t671)) (fun _ hk => hk.2) (.int .i64 t672)) (fun _ hk => hk.2) (.int .i64 t673)) (fun _ hk => hk.2) (.slice Ao89 t674.length co89)) (fun _ hk => hk.2) (.slice Ao90 t677.length co90)) (fun _ hk => hk.2) (.slice Ao91 t680.length co91)) (fun _ hk => hk.2) (.slice Ao92 t683.length co92)) (fun _ hk => trivial)))⟩; have n5_ : Aside0 (w93.heap[gb632]? = some (.cells #[.int .i64 a0_0, .int .i64 a0_1, .int .i64 a0_2, .int .i64 a0_3, .int .i64 a0_4, .int .i64 a0_5, .slice A0_6 l0_6.length c0_6, .slice A0_7 l0_7.length c0_7, .slice A0_8 l0_8.length c0_8, .slice A0_9 l0_9.length c0_9] 34 (0, 0))) := ⟨(by rw [hw]; exact (by (with_reducible repeat (first | refine blk_drewN ?_ _ | refine blk_drew ?_ | refine blk_alloc ?_ _)); refine blk_far ?_ NB632_688.out _; (with_reducible repeat (first | refine blk_drewN ?_ _ | refine blk_drew ?_ | refine blk_alloc ?_ _)); refine blk_far ?_ NB632_688.out _; (with_reducible repeat (first | refine blk_drewN ?_ _ | refine blk_drew ?_ | refine blk_alloc ?_ _)); refine blk_far ?_ NB632_688.out _; (with_reducible repeat (first | refine blk_drewN ?_ _ | refine blk_drew ?_ | refine blk_alloc ?_ _)); refine blk_far ?_ NB632_688.out _; (with_reducible repeat (first | refine blk_drewN ?_ _ | refine blk_drew ?_ | refine blk_alloc ?_ _)); refine blk_far ?_ NB632_688.out _; (with_reducible repeat (first | refine blk_drewN ?_ _ | refine blk_drew ?_ | refine blk_alloc ?_ _)); refine blk_far ?_ NB632_688.out _; (with_reducible repeat (first | refine blk_drewN ?_ _ | refine blk_drew ?_ | refine blk_alloc ?_ _)); refine blk_far ?_ NB632_688.out _; (with_reducible repeat (first | refine blk_drewN ?_ _ | refine blk_drew ?_ | refine blk_alloc ?_ _)); refine blk_far ?_ NB632_688.out _; (with_reducible repeat (first | refine blk_drewN ?_ _ | refine blk_drew ?_ | refine blk_alloc ?_ _)); refine blk_far ?_ NB632_688.out _; (with_reducible repeat (first | refine blk_drewN ?_ _ | refine blk_drew ?_ | refine blk_alloc ?_ _)); refine blk_far ?_ NB632_688.out _; (with_reducible repeat (first | refine blk_drewN ?_ _ | refine blk_drew ?_ | refine blk_alloc ?_ _)); exact BK632.out))⟩; have n6_ : Aside0 (w93.heap[gb688]? = some (.cells #[.int .i64 t668, .int .i64 t669, .int .i64 t670, .int .i64 t671, .int .i64 t672, .int .i64 t673, .slice Ao89 t674.length co89, .slice Ao90 t677.length co90, .slice Ao91 t680.length co91, .slice Ao92 t683.length co92] 30 (0, 0))) := ⟨(by rw [hw]; exact (by (with_reducible repeat (first | refine blk_drewN ?_ _ | refine blk_drew ?_ | refine blk_alloc ?_ _)); refine blk_put (cs := #[.int .i64 t668, .int .i64 t669, .int .i64 t670, .int .i64 t671, .int .i64 t672, .int .i64 t673, .slice Ao89 t674.length co89, .slice Ao90 t677.length co90, .slice Ao91 t680.length co91, .slice none 0 0]) ?_ 9 _ rfl; (with_reducible repeat (first | refine blk_drewN ?_ _ | refine blk_drew ?_ | refine blk_alloc ?_ _)); refine blk_put (cs := #[.int .i64 t668, .int .i64 t669, .int .i64 t670, .int .i64 t671, .int .i64 t672, .int .i64 t673, .slice Ao89 t674.length co89, .slice Ao90 t677.length co90, .slice none 0 0, .slice none 0 0]) ?_ 8 _ rfl; (with_reducible repeat (first | refine blk_drewN ?_ _ | refine blk_drew ?_ | refine blk_alloc ?_ _)); refine blk_put (cs := #[.int .i64 t668, .int .i64 t669, .int .i64 t670, .int .i64 t671, .int .i64 t672, .int .i64 t673, .slice Ao89 t674.length co89, .slice none 0 0, .slice none 0 0, .slice none 0 0]) ?_ 7 _ rfl; (with_reducible repeat (first | refine blk_drewN ?_ _ | refine blk_drew ?_ | refine blk_alloc ?_ _)); refine blk_put (cs := #[.int .i64 t668, .int .i64 t669, .int .i64 t670, .int .i64 t671, .int .i64 t672, .int .i64 t673, .slice none 0 0, .slice none 0 0, .slice none 0 0, .slice none 0 0]) ?_ 6 _ rfl; (with_reducible repeat (first | refine blk_drewN ?_ _ | refine blk_drew ?_ | refine blk_alloc ?_ _)); refine blk_put (cs := #[.int .i64 t668, .int .i64 t669, .int .i64 t670, .int .i64 t671, .int .i64 t672, .int .i64 0, .slice none 0 0, .slice none 0 0, .slice none 0 0, .slice none 0 0]) ?_ 5 _ rfl; (with_reducible repeat (first | refine blk_drewN ?_ _ | refine blk_drew ?_ | refine blk_alloc ?_ _)); refine blk_put (cs := #[.int .i64 t668, .int .i64 t669, .int .i64 t670, .int .i64 t671, .int .i64 0, .int .i64 0, .slice none 0 0, .slice none 0 0, .slice none 0 0, .slice none 0 0]) ?_ 4 _ rfl; (with_reducible repeat (first | refine blk_drewN ?_ _ | refine blk_drew ?_ | refine blk_alloc ?_ _)); refine blk_put (cs := #[.int .i64 t668, .int .i64 t669, .int .i64 t670, .int .i64 0, .int .i64 0, .int .i64 0, .slice none 0 0, .slice none 0 0, .slice none 0 0, .slice none 0 0]) ?_ 3 _ rfl; (with_reducible repeat (first | refine blk_drewN ?_ _ | refine blk_drew ?_ | refine blk_alloc ?_ _)); refine blk_put (cs := #[.int .i64 t668, .int .i64 t669, .int .i64 0, .int .i64 0, .int .i64 0, .int .i64 0, .slice none 0 0, .slice none 0 0, .slice none 0 0, .slice none 0 0]) ?_ 2 _ rfl; (with_reducible repeat (first | refine blk_drewN ?_ _ | refine blk_drew ?_ | refine blk_alloc ?_ _)); refine blk_put (cs := #[.int .i64 t668, .int .i64 0, .int .i64 0, .int .i64 0, .int .i64 0, .int .i64 0, .slice none 0 0, .slice none 0 0, .slice none 0 0, .slice none 0 0]) ?_ 1 _ rfl; (with_reducible repeat (first | refine blk_drewN ?_ _ | refine blk_drew ?_ | refine blk_alloc ?_ _)); refine blk_put (cs := #[.int .i64 0, .int .i64 0, .int .i64 0, .int .i64 0, .int .i64 0, .int .i64 0, .slice none 0 0, .slice none 0 0, .slice none 0 0, .slice none 0 0]) ?_ 0 _ rfl; (with_reducible repeat (first | refine blk_drewN ?_ _ | refine blk_drew ?_ | refine blk_alloc ?_ _)); exact BK688.out))⟩; have n7_ : Aside0 (Below w.heap.size w w93) := ⟨(by rw [hw]; exact (by repeat (first | (with_reducible first | exact HB.out | apply below_alloc | apply pw_below_drewN | apply below_drew1 | refine below_set ?_ GE632.out | refine below_set ?_ GE688.out) | exact HB.out)))⟩; clear hw; clear HO_7; clear HO676; clear HO679; clear HO682; clear HO685; clear BK632; clear BK688; clear HB; have HO_7 := n0_; have HO676 := n1_; have HO679 := n2_; have HO682 := n3_; have HO685 := n4_; have BK632 := n5_; have BK688 := n6_; have HB := n7_; clear n0_ n1_ n2_ n3_ n4_ n5_ n6_ n7_))
             go_ret
             exact ⟨by first | rfl | (simp [errW_none, errW_some] <;> rfl) | (simp [*, errW_none, errW_some] <;> rfl), by repeat (first | (with_reducible first | exact HB.out | apply below_alloc | apply pw_below_drewN | apply below_drew1 | refine below_set ?_ GE632.out | refine below_set ?_ GE688.out) | exact HB.out)⟩
           ·rw [if_neg c71] at H
            have c71b0 : (t686 == x10_29) = false := beq_eq_false_iff_ne.mpr c71
            have c71b1 : (t686 != x10_29) = true := bne_iff_ne.mpr c71
            obtain rfl := Option.some.inj H
            obtain ⟨Ao94, co94, eo94⟩ := Kd.R_slice HO_7.out
            subst eo94
            go_wp2_with (first | ((with_reducible refine gate_callee (f := 10) rfl ?_); refine goesL_ (some 79) rfl rfl Try.func10 (by kernel_rfl) rfl #[.slice Ao94 x7_29.length co94] rfl (by (try simp only [List.map_toArray, List.map_cons, List.map_nil]); first | done | rfl | (simp only [List.length_drop, List.length_take]; rfl)) ?_; (with_reducible refine (script_Get.calls kj29 _ _ x7_29 t668 t669 t670 t671 t672 t673 t674 t677 t680 t683 t686 t687 _ ?side1 ?side2 A70.out).mono ?_); (case side1 => repeat (first | exact (Kd.R_reads' HO_7.out).2.2 | (with_reducible refine Kd.C_alloc ?_ _) | (with_reducible refine Kd.C_drewN ?_ _) | (with_reducible refine Kd.C_drew ?_))); (case side2 => exact (Kd.R_reads' HO_7.out).2.1); rintro e w95 ⟨v675, v678, v681, v684, rfl, ho0, ho1, ho2, ho3, hb⟩; refine ⟨_, rfl, ?_⟩; have n0_ := Aside0.mk (Kd.R_elder' (by (with_reducible repeat (first | apply Kd.R_alloc | apply Kd.R_drewN | apply Kd.R_drew)); exact HO_7.out) (Kd.R_base ho1) hb); have n1_ := Aside0.mk (Kd.R_lower ho0 (below_size (by repeat (first | (with_reducible first | exact HB.out | apply below_alloc | apply pw_below_drewN | apply below_drew1 | refine below_set ?_ GE632.out) | exact HB.out)))); have n2_ := Aside0.mk (Kd.R_lower (Kd.R_new' ho1 (Kd.R_lt (by (with_reducible repeat (first | apply Kd.R_alloc | apply Kd.R_drewN | apply Kd.R_drew)); exact HO_7.out))) (below_size (by repeat (first | (with_reducible first | exact HB.out | apply below_alloc | apply pw_below_drewN | apply below_drew1 | refine below_set ?_ GE632.out) | exact HB.out)))); have n3_ := Aside0.mk (Kd.R_lower ho2 (below_size (by repeat (first | (with_reducible first | exact HB.out | apply below_alloc | apply pw_below_drewN | apply below_drew1 | refine below_set ?_ GE632.out) | exact HB.out)))); have n4_ := Aside0.mk (Kd.R_lower ho3 (below_size (by repeat (first | (with_reducible first | exact HB.out | apply below_alloc | apply pw_below_drewN | apply below_drew1 | refine below_set ?_ GE632.out) | exact HB.out)))); have n5_ := Aside0.mk (blk_below (g := gb632) (o := .cells #[.int .i64 a0_0, .int .i64 a0_1, .int .i64 a0_2, .int .i64 a0_3, .int .i64 a0_4, .int .i64 a0_5, .slice A0_6 l0_6.length c0_6, .slice A0_7 l0_7.length c0_7, .slice A0_8 l0_8.length c0_8, .slice A0_9 l0_9.length c0_9] 34 (0, 0)) (by (with_reducible repeat (first | refine blk_drewN ?_ _ | refine blk_drew ?_ | refine blk_alloc ?_ _)); exact BK632.out) hb); have n6_ := Aside0.mk (below_step (by repeat (first | (with_reducible first | exact HB.out | apply below_alloc | apply pw_below_drewN | apply below_drew1 | refine below_set ?_ GE632.out) | exact HB.out)) hb); clear HO_7; clear BK632; clear HB; have HO_7 := n0_; have HO676 := n1_; have HO679 := n2_; have HO682 := n3_; have HO685 := n4_; have BK632 := n5_; have HB := n6_; clear n0_ n1_ n2_ n3_ n4_ n5_ n6_; (try clear hb); (try clear hb2); (try clear hk); (try clear hi); (try clear ho0); (try clear ho1); (try clear ho2); (try clear ho3)) | ((with_reducible refine gate_dst (N := 11) rfl ?_); (try (refine gate_guard (by rfl) ?_; dsimp only)); refine box_event ?hg (N := 11) ?hd (cs := #[.int .i64 0, .int .i64 0, .int .i64 0, .int .i64 0, .int .i64 0, .int .i64 0, .slice none 0 0, .slice none 0 0, .slice none 0 0, .slice none 0 0]) (t := 30) ?hr ?_; (case hd => rfl); (case hg => rfl); (case hr => first | (go_simp; done) | (go_simp; rfl)); intro gb688 hg w96 hbox hb; have n0_ := Aside0.mk (Kd.R_below (by (with_reducible repeat (first | apply Kd.R_alloc | apply Kd.R_drewN | apply Kd.R_drew)); exact HO_7.out) hb); have n1_ := Aside0.mk (Kd.R_below (by (with_reducible repeat (first | apply Kd.R_alloc | apply Kd.R_drewN | apply Kd.R_drew)); exact HO676.out) hb); have n2_ := Aside0.mk (Kd.R_below (by (with_reducible repeat (first | apply Kd.R_alloc | apply Kd.R_drewN | apply Kd.R_drew)); exact HO679.out) hb); have n3_ := Aside0.mk (Kd.R_below (by (with_reducible repeat (first | apply Kd.R_alloc | apply Kd.R_drewN | apply Kd.R_drew)); exact HO682.out) hb); have n4_ := Aside0.mk (Kd.R_below (by (with_reducible repeat (first | apply Kd.R_alloc | apply Kd.R_drewN | apply Kd.R_drew)); exact HO685.out) hb); have n5_ := Aside0.mk (blk_below (g := gb632) (o := .cells #[.int .i64 a0_0, .int .i64 a0_1, .int .i64 a0_2, .int .i64 a0_3, .int .i64 a0_4, .int .i64 a0_5, .slice A0_6 l0_6.length c0_6, .slice A0_7 l0_7.length c0_7, .slice A0_8 l0_8.length c0_8, .slice A0_9 l0_9.length c0_9] 34 (0, 0)) (by (with_reducible repeat (first | refine blk_drewN ?_ _ | refine blk_drew ?_ | refine blk_alloc ?_ _)); exact BK632.out) hb); have n6_ := Aside0.mk (below_step (by repeat (first | (with_reducible first | exact HB.out | apply below_alloc | apply pw_below_drewN | apply below_drew1 | refine below_set ?_ GE632.out) | exact HB.out)) hb); have n7_ := Aside0.mk (hbox); have n8_ := Aside0.mk ((by rw [hg]; exact (below_size (by repeat (first | (with_reducible first | exact HB.out | apply below_alloc | apply pw_below_drewN | apply below_drew1 | refine below_set ?_ GE632.out) | exact HB.out))) : w.heap.size ≤ gb688)); have n9_ := Aside0.mk ((by rw [hg]; exact (below_size (by repeat (first | (with_reducible first | exact HB.out | apply below_alloc | apply pw_below_drewN | apply below_drew1 | refine below_set ?_ GE632.out) | exact HB.out))) : w.heap.size ≤ gb688)); have n10_ := Aside0.mk ((by rw [hg]; exact Nat.ne_of_lt (blk_lt (g := gb632) (o := .cells #[.int .i64 a0_0, .int .i64 a0_1, .int .i64 a0_2, .int .i64 a0_3, .int .i64 a0_4, .int .i64 a0_5, .slice A0_6 l0_6.length c0_6, .slice A0_7 l0_7.length c0_7, .slice A0_8 l0_8.length c0_8, .slice A0_9 l0_9.length c0_9] 34 (0, 0)) (by (with_reducible repeat (first | refine blk_drewN ?_ _ | refine blk_drew ?_ | refine blk_alloc ?_ _)); exact BK632.out)) : gb632 ≠ gb688)); have n11_ := Aside0.mk ((by rw [hg]; exact Nat.ne_of_gt (blk_lt (g := gb632) (o := .cells #[.int .i64 a0_0, .int .i64 a0_1, .int .i64 a0_2, .int .i64 a0_3, .int .i64 a0_4, .int .i64 a0_5, .slice A0_6 l0_6.length c0_6, .slice A0_7 l0_7.length c0_7, .slice A0_8 l0_8.length c0_8, .slice A0_9 l0_9.length c0_9] 34 (0, 0)) (by (with_reducible repeat (first | refine blk_drewN ?_ _ | refine blk_drew ?_ | refine blk_alloc ?_ _)); exact BK632.out)) : gb688 ≠ gb632)); clear HO_7; clear HO676; clear HO679; clear HO682; clear HO685; clear BK632; clear HB; have HO_7 := n0_; have HO676 := n1_; have HO679 := n2_; have HO682 := n3_; have HO685 := n4_; have BK632 := n5_; have HB := n6_; have BK688 := n7_; have GW688 := n8_; have GE688 := n9_; have NB632_688 := n10_; have NB688_632 := n11_; clear n0_ n1_ n2_ n3_ n4_ n5_ n6_ n7_ n8_ n9_ n10_ n11_; clear hb hbox hg; have hnb97 := NB688_632.out; have hnc97 := NB632_688.out; have hcz98_0 : w96.cell? ⟨gb688, 0, none⟩ = some (.int .i64 0) := (blk_cell BK688.out 0).trans rfl; have hcz98_1 : w96.cell? ⟨gb688, 1, none⟩ = some (.int .i64 0) := (blk_cell BK688.out 1).trans rfl; have hcz98_2 : w96.cell? ⟨gb688, 2, none⟩ = some (.int .i64 0) := (blk_cell BK688.out 2).trans rfl; have hcz98_3 : w96.cell? ⟨gb688, 3, none⟩ = some (.int .i64 0) := (blk_cell BK688.out 3).trans rfl; have hcz98_4 : w96.cell? ⟨gb688, 4, none⟩ = some (.int .i64 0) := (blk_cell BK688.out 4).trans rfl; have hcz98_5 : w96.cell? ⟨gb688, 5, none⟩ = some (.int .i64 0) := (blk_cell BK688.out 5).trans rfl; have hcz98_6 : w96.cell? ⟨gb688, 6, none⟩ = some (.slice none 0 0) := (blk_cell BK688.out 6).trans rfl; have hcz98_7 : w96.cell? ⟨gb688, 7, none⟩ = some (.slice none 0 0) := (blk_cell BK688.out 7).trans rfl; have hcz98_8 : w96.cell? ⟨gb688, 8, none⟩ = some (.slice none 0 0) := (blk_cell BK688.out 8).trans rfl; have hcz98_9 : w96.cell? ⟨gb688, 9, none⟩ = some (.slice none 0 0) := (blk_cell BK688.out 9).trans rfl; have hfz98_0 := blk_frozen BK688.out 0; have hfz98_1 := blk_frozen BK688.out 1; have hfz98_2 := blk_frozen BK688.out 2; have hfz98_3 := blk_frozen BK688.out 3; have hfz98_4 := blk_frozen BK688.out 4; have hfz98_5 := blk_frozen BK688.out 5; have hfz98_6 := blk_frozen BK688.out 6; have hfz98_7 := blk_frozen BK688.out 7; have hfz98_8 := blk_frozen BK688.out 8; have hfz98_9 := blk_frozen BK688.out 9; obtain ⟨Ao99, co99, eo99⟩ := Kd.R_slice HO676.out; subst eo99; obtain ⟨Ao100, co100, eo100⟩ := Kd.R_slice HO679.out; subst eo100; obtain ⟨Ao101, co101, eo101⟩ := Kd.R_slice HO682.out; subst eo101; obtain ⟨Ao102, co102, eo102⟩ := Kd.R_slice HO685.out; subst eo102) | ((with_reducible refine gate_store (t := 30) (p := 11) rfl ?_); refine store_event (t := 30) (p := 11) (v := ?vo_w103) (w1 := ((((((((((w96.setCell ⟨gb688, 0, none⟩ (.int .i64 t668)).setCell ⟨gb688, 1, none⟩ (.int .i64 t669)).setCell ⟨gb688, 2, none⟩ (.int .i64 t670)).setCell ⟨gb688, 3, none⟩ (.int .i64 t671)).setCell ⟨gb688, 4, none⟩ (.int .i64 t672)).setCell ⟨gb688, 5, none⟩ (.int .i64 t673)).setCell ⟨gb688, 6, none⟩ (.slice Ao99 t674.length co99)).setCell ⟨gb688, 7, none⟩ (.slice Ao100 t677.length co100)).setCell ⟨gb688, 8, none⟩ (.slice Ao101 t680.length co101)).setCell ⟨gb688, 9, none⟩ (.slice Ao102 t683.length co102))) ?hg ?ho ?hn ?hr ?_; (case ho => rfl); (case hg => rfl); (case hn => rfl); (case hr => first | (go_simp; done) | (go_simp; rfl)); intro w103 hw; have n0_ : Aside0 (Kd.R (Kd.int .u8) 5 w103 w.heap.size (fun k_ => some k_ ≠ (.slice Ao100 t677.length co100 : Value).ownBlock) (.slice Ao94 x7_29.length co94) x7_29) := ⟨(by rw [hw]; exact (by (with_reducible repeat (first | apply Kd.R_alloc | apply Kd.R_drewN | apply Kd.R_drew)); exact Kd.R_mono (Kd.R_far (p := ⟨gb688, 9, none⟩) (Kd.R_far (p := ⟨gb688, 8, none⟩) (Kd.R_far (p := ⟨gb688, 7, none⟩) (Kd.R_far (p := ⟨gb688, 6, none⟩) (Kd.R_far (p := ⟨gb688, 5, none⟩) (Kd.R_far (p := ⟨gb688, 4, none⟩) (Kd.R_far (p := ⟨gb688, 3, none⟩) (Kd.R_far (p := ⟨gb688, 2, none⟩) (Kd.R_far (p := ⟨gb688, 1, none⟩) (Kd.R_far (p := ⟨gb688, 0, none⟩) (Kd.R_types HO_7.out BK688.out (by decide)) (fun _ hk => hk.2) (.int .i64 t668)) (fun _ hk => hk.2) (.int .i64 t669)) (fun _ hk => hk.2) (.int .i64 t670)) (fun _ hk => hk.2) (.int .i64 t671)) (fun _ hk => hk.2) (.int .i64 t672)) (fun _ hk => hk.2) (.int .i64 t673)) (fun _ hk => hk.2) (.slice Ao99 t674.length co99)) (fun _ hk => hk.2) (.slice Ao100 t677.length co100)) (fun _ hk => hk.2) (.slice Ao101 t680.length co101)) (fun _ hk => hk.2) (.slice Ao102 t683.length co102)) (fun _ hk => hk.1.2)))⟩; have n1_ : Aside0 (Kd.R (Kd.int .i64) 2 w103 w.heap.size (fun _ => True) (.slice Ao99 t674.length co99) t674) := ⟨(by rw [hw]; exact (by (with_reducible repeat (first | apply Kd.R_alloc | apply Kd.R_drewN | apply Kd.R_drew)); exact Kd.R_mono (Kd.R_far (p := ⟨gb688, 9, none⟩) (Kd.R_far (p := ⟨gb688, 8, none⟩) (Kd.R_far (p := ⟨gb688, 7, none⟩) (Kd.R_far (p := ⟨gb688, 6, none⟩) (Kd.R_far (p := ⟨gb688, 5, none⟩) (Kd.R_far (p := ⟨gb688, 4, none⟩) (Kd.R_far (p := ⟨gb688, 3, none⟩) (Kd.R_far (p := ⟨gb688, 2, none⟩) (Kd.R_far (p := ⟨gb688, 1, none⟩) (Kd.R_far (p := ⟨gb688, 0, none⟩) (Kd.R_types HO676.out BK688.out (by decide)) (fun _ hk => hk.2) (.int .i64 t668)) (fun _ hk => hk.2) (.int .i64 t669)) (fun _ hk => hk.2) (.int .i64 t670)) (fun _ hk => hk.2) (.int .i64 t671)) (fun _ hk => hk.2) (.int .i64 t672)) (fun _ hk => hk.2) (.int .i64 t673)) (fun _ hk => hk.2) (.slice Ao99 t674.length co99)) (fun _ hk => hk.2) (.slice Ao100 t677.length co100)) (fun _ hk => hk.2) (.slice Ao101 t680.length co101)) (fun _ hk => hk.2) (.slice Ao102 t683.length co102)) (fun _ hk => trivial)))⟩; have n2_ : Aside0 (Kd.R (Kd.int .u8) 5 w103 w.heap.size (fun k_ => some k_ ≠ (.slice Ao94 x7_29.length co94 : Value).ownBlock) (.slice Ao100 t677.length co100) t677) := ⟨(by rw [hw]; exact (by (with_reducible repeat (first | apply Kd.R_alloc | apply Kd.R_drewN | apply Kd.R_drew)); exact Kd.R_mono (Kd.R_far (p := ⟨gb688, 9, none⟩) (Kd.R_far (p := ⟨gb688, 8, none⟩) (Kd.R_far (p := ⟨gb688, 7, none⟩) (Kd.R_far (p := ⟨gb688, 6, none⟩) (Kd.R_far (p := ⟨gb688, 5, none⟩) (Kd.R_far (p := ⟨gb688, 4, none⟩) (Kd.R_far (p := ⟨gb688, 3, none⟩) (Kd.R_far (p := ⟨gb688, 2, none⟩) (Kd.R_far (p := ⟨gb688, 1, none⟩) (Kd.R_far (p := ⟨gb688, 0, none⟩) (Kd.R_types HO679.out BK688.out (by decide)) (fun _ hk => hk.2) (.int .i64 t668)) (fun _ hk => hk.2) (.int .i64 t669)) (fun _ hk => hk.2) (.int .i64 t670)) (fun _ hk => hk.2) (.int .i64 t671)) (fun _ hk => hk.2) (.int .i64 t672)) (fun _ hk => hk.2) (.int .i64 t673)) (fun _ hk => hk.2) (.slice Ao99 t674.length co99)) (fun _ hk => hk.2) (.slice Ao100 t677.length co100)) (fun _ hk => hk.2) (.slice Ao101 t680.length co101)) (fun _ hk => hk.2) (.slice Ao102 t683.length co102)) (fun _ hk => hk.1.2)))⟩; have n3_ : Aside0 (Kd.R (Kd.slice 61 (Kd.slice 80 k80)) 60 w103 w.heap.size (fun _ => True) (.slice Ao101 t680.length co101) t680) := ⟨(by rw [hw]; exact (by (with_reducible repeat (first | apply Kd.R_alloc | apply Kd.R_drewN | apply Kd.R_drew)); exact Kd.R_mono (Kd.R_far (p := ⟨gb688, 9, none⟩) (Kd.R_far (p := ⟨gb688, 8, none⟩) (Kd.R_far (p := ⟨gb688, 7, none⟩) (Kd.R_far (p := ⟨gb688, 6, none⟩) (Kd.R_far (p := ⟨gb688, 5, none⟩) (Kd.R_far (p := ⟨gb688, 4, none⟩) (Kd.R_far (p := ⟨gb688, 3, none⟩) (Kd.R_far (p := ⟨gb688, 2, none⟩) (Kd.R_far (p := ⟨gb688, 1, none⟩) (Kd.R_far (p := ⟨gb688, 0, none⟩) (Kd.R_types HO682.out BK688.out (by decide)) (fun _ hk => hk.2) (.int .i64 t668)) (fun _ hk => hk.2) (.int .i64 t669)) (fun _ hk => hk.2) (.int .i64 t670)) (fun _ hk => hk.2) (.int .i64 t671)) (fun _ hk => hk.2) (.int .i64 t672)) (fun _ hk => hk.2) (.int .i64 t673)) (fun _ hk => hk.2) (.slice Ao99 t674.length co99)) (fun _ hk => hk.2) (.slice Ao100 t677.length co100)) (fun _ hk => hk.2) (.slice Ao101 t680.length co101)) (fun _ hk => hk.2) (.slice Ao102 t683.length co102)) (fun _ hk => trivial)))⟩; have n4_ : Aside0 (Kd.R (Kd.int .i64) 3 w103 w.heap.size (fun _ => True) (.slice Ao102 t683.length co102) t683) := ⟨(by rw [hw]; exact (by (with_reducible repeat (first | apply Kd.R_alloc | apply Kd.R_drewN | apply Kd.R_drew)); exact Kd.R_mono (Kd.R_far (p := ⟨gb688, 9, none⟩) (Kd.R_far (p := ⟨gb688, 8, none⟩) (Kd.R_far (p := ⟨gb688, 7, none⟩) (Kd.R_far (p := ⟨gb688, 6, none⟩) (Kd.R_far (p := ⟨gb688, 5, none⟩) (Kd.R_far (p := ⟨gb688, 4, none⟩) (Kd.R_far (p := ⟨gb688, 3, none⟩) (Kd.R_far (p := ⟨gb688, 2, none⟩) (Kd.R_far (p := ⟨gb688, 1, none⟩) (Kd.R_far (p := ⟨gb688, 0, none⟩) (Kd.R_types HO685.out BK688.out (by decide)) (fun _ hk => hk.2) (.int .i64 t668)) (fun _ hk => hk.2) (.int .i64 t669)) (fun _ hk => hk.2) (.int .i64 t670)) (fun _ hk => hk.2) (.int .i64 t671)) (fun _ hk => hk.2) (.int .i64 t672)) (fun _ hk => hk.2) (.int .i64 t673)) (fun _ hk => hk.2) (.slice Ao99 t674.length co99)) (fun _ hk => hk.2) (.slice Ao100 t677.length co100)) (fun _ hk => hk.2) (.slice Ao101 t680.length co101)) (fun _ hk => hk.2) (.slice Ao102 t683.length co102)) (fun _ hk => trivial)))⟩; have n5_ : Aside0 (w103.heap[gb632]? = some (.cells #[.int .i64 a0_0, .int .i64 a0_1, .int .i64 a0_2, .int .i64 a0_3, .int .i64 a0_4, .int .i64 a0_5, .slice A0_6 l0_6.length c0_6, .slice A0_7 l0_7.length c0_7, .slice A0_8 l0_8.length c0_8, .slice A0_9 l0_9.length c0_9] 34 (0, 0))) := ⟨(by rw [hw]; exact (by (with_reducible repeat (first | refine blk_drewN ?_ _ | refine blk_drew ?_ | refine blk_alloc ?_ _)); refine blk_far ?_ NB632_688.out _; (with_reducible repeat (first | refine blk_drewN ?_ _ | refine blk_drew ?_ | refine blk_alloc ?_ _)); refine blk_far ?_ NB632_688.out _; (with_reducible repeat (first | refine blk_drewN ?_ _ | refine blk_drew ?_ | refine blk_alloc ?_ _)); refine blk_far ?_ NB632_688.out _; (with_reducible repeat (first | refine blk_drewN ?_ _ | refine blk_drew ?_ | refine blk_alloc ?_ _)); refine blk_far ?_ NB632_688.out _; (with_reducible repeat (first | refine blk_drewN ?_ _ | refine blk_drew ?_ | refine blk_alloc ?_ _)); refine blk_far ?_ NB632_688.out _; (with_reducible repeat (first | refine blk_drewN ?_ _ | refine blk_drew ?_ | refine blk_alloc ?_ _)); refine blk_far ?_ NB632_688.out _; (with_reducible repeat (first | refine blk_drewN ?_ _ | refine blk_drew ?_ | refine blk_alloc ?_ _)); refine blk_far ?_ NB632_688.out _; (with_reducible repeat (first | refine blk_drewN ?_ _ | refine blk_drew ?_ | refine blk_alloc ?_ _)); refine blk_far ?_ NB632_688.out _; (with_reducible repeat (first | refine blk_drewN ?_ _ | refine blk_drew ?_ | refine blk_alloc ?_ _)); refine blk_far ?_ NB632_688.out _; (with_reducible repeat (first | refine blk_drewN ?_ _ | refine blk_drew ?_ | refine blk_alloc ?_ _)); refine blk_far ?_ NB632_688.out _; (with_reducible repeat (first | refine blk_drewN ?_ _ | refine blk_drew ?_ | refine blk_alloc ?_ _)); exact BK632.out))⟩; have n6_ : Aside0 (w103.heap[gb688]? = some (.cells #[.int .i64 t668, .int .i64 t669, .int .i64 t670, .int .i64 t671, .int .i64 t672, .int .i64 t673, .slice Ao99 t674.length co99, .slice Ao100 t677.length co100, .slice Ao101 t680.length co101, .slice Ao102 t683.length co102] 30 (0, 0))) := ⟨(by rw [hw]; exact (by (with_reducible repeat (first | refine blk_drewN ?_ _ | refine blk_drew ?_ | refine blk_alloc ?_ _)); refine blk_put (cs := #[.int .i64 t668, .int .i64 t669, .int .i64 t670, .int .i64 t671, .int .i64 t672, .int .i64 t673, .slice Ao99 t674.length co99, .slice Ao100 t677.length co100, .slice Ao101 t680.length co101, .slice none 0 0]) ?_ 9 _ rfl; (with_reducible repeat (first | refine blk_drewN ?_ _ | refine blk_drew ?_ | refine blk_alloc ?_ _)); refine blk_put (cs := #[.int .i64 t668, .int .i64 t669, .int .i64 t670, .int .i64 t671, .int .i64 t672, .int .i64 t673, .slice Ao99 t674.length co99, .slice Ao100 t677.length co100, .slice none 0 0, .slice none 0 0]) ?_ 8 _ rfl; (with_reducible repeat (first | refine blk_drewN ?_ _ | refine blk_drew ?_ | refine blk_alloc ?_ _)); refine blk_put (cs := #[.int .i64 t668, .int .i64 t669, .int .i64 t670, .int .i64 t671, .int .i64 t672, .int .i64 t673, .slice Ao99 t674.length co99, .slice none 0 0, .slice none 0 0, .slice none 0 0]) ?_ 7 _ rfl; (with_reducible repeat (first | refine blk_drewN ?_ _ | refine blk_drew ?_ | refine blk_alloc ?_ _)); refine blk_put (cs := #[.int .i64 t668, .int .i64 t669, .int .i64 t670, .int .i64 t671, .int .i64 t672, .int .i64 t673, .slice none 0 0, .slice none 0 0, .slice none 0 0, .slice none 0 0]) ?_ 6 _ rfl; (with_reducible repeat (first | refine blk_drewN ?_ _ | refine blk_drew ?_ | refine blk_alloc ?_ _)); refine blk_put (cs := #[.int .i64 t668, .int .i64 t669, .int .i64 t670, .int .i64 t671, .int .i64 t672, .int .i64 0, .slice none 0 0, .slice none 0 0, .slice none 0 0, .slice none 0 0]) ?_ 5 _ rfl; (with_reducible repeat (first | refine blk_drewN ?_ _ | refine blk_drew ?_ | refine blk_alloc ?_ _)); refine blk_put (cs := #[.int .i64 t668, .int .i64 t669, .int .i64 t670, .int .i64 t671, .int .i64 0, .int .i64 0, .slice none 0 0, .slice none 0 0, .slice none 0 0, .slice none 0 0]) ?_ 4 _ rfl; (with_reducible repeat (first | refine blk_drewN ?_ _ | refine blk_drew ?_ | refine blk_alloc ?_ _)); refine blk_put (cs := #[.int .i64 t668, .int .i64 t669, .int .i64 t670, .int .i64 0, .int .i64 0, .int .i64 0, .slice none 0 0, .slice none 0 0, .slice none 0 0, .slice none 0 0]) ?_ 3 _ rfl; (with_reducible repeat (first | refine blk_drewN ?_ _ | refine blk_drew ?_ | refine blk_alloc ?_ _)); refine blk_put (cs := #[.int .i64 t668, .int .i64 t669, .int .i64 0, .int .i64 0, .int .i64 0, .int .i64 0, .slice none 0 0, .slice none 0 0, .slice none 0 0, .slice none 0 0]) ?_ 2 _ rfl; (with_reducible repeat (first | refine blk_drewN ?_ _ | refine blk_drew ?_ | refine blk_alloc ?_ _)); refine blk_put (cs := #[.int .i64 t668, .int .i64 0, .int .i64 0, .int .i64 0, .int .i64 0, .int .i64 0, .slice none 0 0, .slice none 0 0, .slice none 0 0, .slice none 0 0]) ?_ 1 _ rfl; (with_reducible repeat (first | refine blk_drewN ?_ _ | refine blk_drew ?_ | refine blk_alloc ?_ _)); refine blk_put (cs := #[.int .i64 0, .int .i64 0, .int .i64 0, .int .i64 0, .int .i64 0, .int .i64 0, .slice none 0 0, .slice none 0 0, .slice none 0 0, .slice none 0 0]) ?_ 0 _ rfl; (with_reducible repeat (first | refine blk_drewN ?_ _ | refine blk_drew ?_ | refine blk_alloc ?_ _)); exact BK688.out))⟩; have n7_ : Aside0 (Below w.heap.size w w103) := ⟨(by rw [hw]; exact (by repeat (first | (with_reducible first | exact HB.out | apply below_alloc | apply pw_below_drewN | apply below_drew1 | refine below_set ?_ GE632.out | refine below_set ?_ GE688.out) | exact HB.out)))⟩; clear hw; clear HO_7; clear HO676; clear HO679; clear HO682; clear HO685; clear BK632; clear BK688; clear HB; have HO_7 := n0_; have HO676 := n1_; have HO679 := n2_; have HO682 := n3_; have HO685 := n4_; have BK632 := n5_; have BK688 := n6_; have HB := n7_; clear n0_ n1_ n2_ n3_ n4_ n5_ n6_ n7_))
            go_ret
            exact ⟨by first | rfl | (simp [errW_none, errW_some] <;> rfl) | (simp [*, errW_none, errW_some] <;> rfl), by repeat (first | (with_reducible first | exact HB.out | apply below_alloc | apply pw_below_drewN | apply below_drew1 | refine below_set ?_ GE632.out | refine below_set ?_ GE688.out) | exact HB.out)⟩
        ·rw [if_neg c29] at H
         exact absurd H (by simp)
 ·replace c5 := Bool.eq_false_iff.mpr c5
  subst c5
  have H1 : (some false) = some r := by rw [if_neg (show ¬ (false = true) by decide)] at H; exact H
  clear H
  have H := H1
  clear H1
  obtain rfl := Option.some.inj H
  go_enter Try.func8, Try.ntmps8
  go_wp2_with (first | ((with_reducible refine gate_dst (N := 3) rfl ?_); (try (refine gate_guard (by rfl) ?_; dsimp only)); refine box_event ?hg (N := 3) ?hd (cs := #[.int .i64 a0_0, .int .i64 a0_1, .int .i64 a0_2, .int .i64 a0_3, .int .i64 a0_4, .int .i64 a0_5, .slice A0_6 l0_6.length c0_6, .slice A0_7 l0_7.length c0_7, .slice A0_8 l0_8.length c0_8, .slice A0_9 l0_9.length c0_9]) (t := 34) ?hr ?_; (case hd => rfl); (case hg => rfl); (case hr => first | (go_simp; done) | (go_simp; rfl)); intro gb632 hg w104 hbox hb; have n0_ := Aside0.mk (below_step (by repeat (first | (with_reducible first | exact HB.out | apply below_alloc | apply pw_below_drewN | apply below_drew1) | exact HB.out)) hb); have n1_ := Aside0.mk (hbox); have n2_ := Aside0.mk ((by rw [hg]; exact (below_size (by repeat (first | (with_reducible first | exact HB.out | apply below_alloc | apply pw_below_drewN | apply below_drew1) | exact HB.out))) : w.heap.size ≤ gb632)); have n3_ := Aside0.mk ((by rw [hg]; exact (below_size (by repeat (first | (with_reducible first | exact HB.out | apply below_alloc | apply pw_below_drewN | apply below_drew1) | exact HB.out))) : w.heap.size ≤ gb632)); clear HB; have HB := n0_; have BK632 := n1_; have GW632 := n2_; have GE632 := n3_; clear n0_ n1_ n2_ n3_; clear hb hbox hg) | ((with_reducible refine gate_callee (f := 9) rfl ?_); refine goesL_ (some 14) rfl rfl Try.func9 (by kernel_rfl) rfl #[] rfl (by (try simp only [List.map_toArray, List.map_cons, List.map_nil]); first | done | rfl | (simp only [List.length_drop, List.length_take]; rfl)) ?_; (with_reducible refine (quarrellaw20_alive.calls k  false _ A4.out).mono ?_); rintro e w105 ⟨rfl, hb⟩; refine ⟨_, rfl, ?_⟩; have n0_ := Aside0.mk (blk_below (g := gb632) (o := .cells #[.int .i64 a0_0, .int .i64 a0_1, .int .i64 a0_2, .int .i64 a0_3, .int .i64 a0_4, .int .i64 a0_5, .slice A0_6 l0_6.length c0_6, .slice A0_7 l0_7.length c0_7, .slice A0_8 l0_8.length c0_8, .slice A0_9 l0_9.length c0_9] 34 (0, 0)) (by (with_reducible repeat (first | refine blk_drewN ?_ _ | refine blk_drew ?_ | refine blk_alloc ?_ _)); exact BK632.out) hb); have n1_ := Aside0.mk (below_step (by repeat (first | (with_reducible first | exact HB.out | apply below_alloc | apply pw_below_drewN | apply below_drew1 | refine below_set ?_ GE632.out) | exact HB.out)) hb); clear BK632; clear HB; have BK632 := n0_; have HB := n1_; clear n0_ n1_; (try clear hb); (try clear hb2); (try clear hk); (try clear hi)))
  go_ret
  exact ⟨by first | rfl | (simp [errW_none, errW_some] <;> rfl) | (simp [*, errW_none, errW_some] <;> rfl), by repeat (first | (with_reducible first | exact HB.out | apply below_alloc | apply pw_below_drewN | apply below_drew1 | refine below_set ?_ GE632.out) | exact HB.out)⟩
end Go.Proofs.Ythfkgnkojhocbaa.S
end
section
namespace Go.Proofs.Ythfkgnkojhocbaa.S
open Go Go.RowKit Go.Proofs.YthfkgnkojhocbaaW.PrintWords
set_option linter.unusedVariables false
set_option linter.unusedSimpArgs false
def opB (o : S80) : List Int := [o.f0 % 256, o.f1 % 256, o.f2 % 256]
def encT (l : List S80) : List Int := (l.length : Int) % 256 :: l.flatMap opB
def encA (l : List (List S80)) : List Int := (l.length : Int) % 256 :: l.flatMap encT
def head7 (c : S25) : List Int := [c.f0 % 256, c.f1 % 256, (c.f2 / 256) % 256, c.f2 % 256, c.f3 % 256, c.f4 % 256, c.f5 % 256]
/-- A script's bytes. -/
def putF (c : S25) (f d : List Int) (a : List (List (List S80))) (p : List Int) : List Int :=
  head7 c ++ (f.map (· % 256) ++ (a.flatMap encA ++ ((d.length : Int) % 256 :: (d ++ p.map (· % 256)))))
theorem opsB_len : ∀ os : List S80, (os.flatMap opB).length = 3 * os.length
  | [] => rfl
  | o :: os => by rw [List.flatMap_cons, List.length_append, opsB_len os]; simp [opB]; omega
/-- What okS says. -/
structure OkS (c : S25) (f d : List Int) (a : List (List (List S80))) (p : List Int) : Prop where
  c0 : 1 ≤ c.f0 ∧ c.f0 ≤ 8
  c1 : 1 ≤ c.f1 ∧ c.f1 ≤ 6
  c2 : 1 ≤ c.f2 ∧ c.f2 ≤ 4096
  c3 : 0 ≤ c.f3 ∧ c.f3 ≤ 255
  c4 : 1 ≤ c.f4 ∧ c.f4 ≤ 4
  c5 : 1 ≤ c.f5 ∧ c.f5 ≤ 64
  rec_ : 2 * c.f0 ≤ c.f2
  fl : (f.length : Int) = c.f0
  fr : ∀ x ∈ f, -128 ≤ x ∧ x ≤ 127
  al : (a.length : Int) = c.f1
  at_ : ∀ t ∈ a, txnsB c.f0 t = true
  dl : (d.length : Int) ≤ 255
  pr : ∀ x ∈ p, 0 ≤ x ∧ x ≤ 255
theorem okS_iff (c : S25) (f d : List Int) (a : List (List (List S80))) (p : List Int) : okS c f d a p = true ↔ OkS c f d a p := by
  unfold okS checkB small64.in smallT.in
  simp only [Bool.and_eq_true, decide_eq_true_eq, List.all_eq_true]
  constructor
  · rintro ⟨⟨⟨⟨⟨⟨⟨⟨h0, h1, h2, h3, h4, h5⟩, h6⟩, h7⟩, h8⟩, h9⟩, h10⟩, h11⟩, h12⟩
    have e : wrap64 (2 * c.f0) = 2 * c.f0 := by unfold wrap64; omega
    exact ⟨h0, h1, h2, h3, h4, h5, by omega, h6, h8, h9, h12, h10, h11⟩
  · intro h
    have e : wrap64 (2 * c.f0) = 2 * c.f0 := by have := h.c0; unfold wrap64; omega
    exact ⟨⟨⟨⟨⟨⟨⟨⟨h.c0, h.c1, h.c2, h.c3, h.c4, h.c5⟩, h.fl⟩, by rw [e]; exact h.rec_⟩, h.fr⟩, h.al⟩, h.dl⟩, h.pr⟩, h.at_⟩
end Go.Proofs.Ythfkgnkojhocbaa.S
end
section
namespace Go.Proofs.Ythfkgnkojhocbaa.S
open Go Go.RowKit Go.Proofs.YthfkgnkojhocbaaW.PrintWords
set_option linter.unusedVariables false
set_option linter.unusedSimpArgs false
/-- A part that fails ends it. -/
theorem run_bad {l : List Int} {n i : Nat} {s s' : Rd} {e : Int} (h : stepF l i s = (e, s')) (he : e ≠ 0) : runF l (n + 1) i s = (e, s') := by
  simp only [runF, h]
  rw [if_pos he]
theorem get_bad {l : List Int} {e : Int} {s : Rd} (h : runF l 5 0 rd0 = (e, s)) (he : e ≠ 0) : getF l = (rd0, (s.at_ : Int), e) := by
  unfold getF
  rw [h, if_pos he]
end Go.Proofs.Ythfkgnkojhocbaa.S
end
section
namespace Go.Proofs.Ythfkgnkojhocbaa.S
open Go.RowKit Go.Proofs.YthfkgnkojhocbaaW.PrintWords Go.Proofs.YthfkgnkojhocbaaW.PrintLast Go.Proofs.YthfkgnkojhocbaaW.PrintMore
attribute [local go_sem] max2_int min2_int max_two min_two max_three min_three max_four min_four
set_option linter.unusedVariables false
set_option linter.unusedSimpArgs false
theorem eqA80 (d : Nat) (w : World) (x0 y0 : Int) (x1 y1 : Int) (x2 y2 : Int) :
    (Op.equalIn (d + 2) 80 (.agg #[.int .i64 x0, .int .i64 x1, .int .i64 x2]) (.agg #[.int .i64 y0, .int .i64 y1, .int .i64 y2])).run Try.prog w = .ok (x0 == y0 && (x1 == y1 && (x2 == y2))) w := by
  refine eqA_of Try.underlying80 (by kernel_rfl) ?_
  refine eqf_cons (by rfl) (by go_simp; rfl) (by go_simp; rfl) (by go_simp) ?_
  refine eqf_cons (by rfl) (by go_simp; rfl) (by go_simp; rfl) (by go_simp) ?_
  exact eqf_last (by rfl) (by go_simp; rfl) (by go_simp; rfl) (by go_simp)
end Go.Proofs.Ythfkgnkojhocbaa.S
end
section
namespace Go.Proofs.Ythfkgnkojhocbaa.S
open Go.RowKit Go.Proofs.YthfkgnkojhocbaaW.PrintWords Go.Proofs.YthfkgnkojhocbaaW.PrintLast Go.Proofs.YthfkgnkojhocbaaW.PrintMore
attribute [local go_sem] max2_int min2_int max_two min_two max_three min_three max_four min_four
set_option linter.unusedVariables false
set_option linter.unusedSimpArgs false
attribute [local go_sem high] eqA80
def quarrelref01_Ints.l0 : Nat → List Int → List Int → Int → Option (Bool)
  | 0, _, _, _ => none
  | k + 1, x0, x1, x5 => if x5 < (x0.length : Int) then (if 0 ≤ x5 then (if x5 < (x1.length : Int) then (if (rd x0 x5) = (rd x1 x5) then (quarrelref01_Ints.l0 k x0 x1 (wrap64 (x5 + 1))) else (some false)) else (none)) else (none)) else (some true)
def quarrelref01_Ints.f (k : Nat) (l0 : List Int) (l1 : List Int) : Option (Bool) := if (l0.length : Int) = (l1.length : Int) then (quarrelref01_Ints.l0 k l0 l1 0) else (some false)
theorem quarrelref01_Ints.mono_l : ∀ k, (∀ y0 y1 y2, LeO (quarrelref01_Ints.l0 k y0 y1 y2) (quarrelref01_Ints.l0 (k + 1) y0 y1 y2))
  | 0 => fun _ _ _ r h => by simp [quarrelref01_Ints.l0] at h
  | k + 1 => by
    have ih0 := quarrelref01_Ints.mono_l k
    · intro y0 y1 y2
      unfold quarrelref01_Ints.l0
      repeat' first
      | (with_reducible exact ih0 _ _ _)
      | (with_reducible exact LeO.refl _)
      | (with_reducible exact LeO.none _)
      | (with_reducible refine LeO.ite ?_ ?_)
      | (with_reducible refine LeO.bind ?_ (fun _ => ?_))
      | exact ih0 _ _ _
      | exact LeO.none _
      | refine LeO.ite ?_ ?_
      | refine LeO.bind ?_ (fun _ => ?_)
theorem quarrelref01_Ints.mono : ∀ a0 a1 k, LeO (quarrelref01_Ints.f k a0 a1) (quarrelref01_Ints.f (k + 1) a0 a1) := by
  intro a0 a1 k
  have ih0 := quarrelref01_Ints.mono_l k
  unfold quarrelref01_Ints.f
  repeat' first
      | (with_reducible exact ih0 _ _ _)
      | (with_reducible exact LeO.refl _)
      | (with_reducible exact LeO.none _)
      | (with_reducible refine LeO.ite ?_ ?_)
      | (with_reducible refine LeO.bind ?_ (fun _ => ?_))
      | exact ih0 _ _ _
      | exact LeO.none _
      | refine LeO.ite ?_ ?_
      | refine LeO.bind ?_ (fun _ => ?_)
def quarrelref11_Same.l0 : Nat → List (S80) → List (S80) → Int → Option (Bool)
  | 0, _, _, _ => none
  | k + 1, x0, x1, x5 => if x5 < (x0.length : Int) then (if 0 ≤ x5 then (if x5 < (x1.length : Int) then (if (!(((rd_T80 x0 x5).f0) == ((rd_T80 x1 x5).f0)) || (!(((rd_T80 x0 x5).f1) == ((rd_T80 x1 x5).f1)) || (!(((rd_T80 x0 x5).f2) == ((rd_T80 x1 x5).f2))))) = true then (some false) else (quarrelref11_Same.l0 k x0 x1 (wrap64 (x5 + 1)))) else (none)) else (none)) else (some true)
def quarrelref11_Same.f (k : Nat) (l0 : List (S80)) (l1 : List (S80)) : Option (Bool) := if (l0.length : Int) = (l1.length : Int) then (quarrelref11_Same.l0 k l0 l1 0) else (some false)
theorem quarrelref11_Same.mono_l : ∀ k, (∀ y0 y1 y2, LeO (quarrelref11_Same.l0 k y0 y1 y2) (quarrelref11_Same.l0 (k + 1) y0 y1 y2))
  | 0 => fun _ _ _ r h => by simp [quarrelref11_Same.l0] at h
  | k + 1 => by
    have ih0 := quarrelref11_Same.mono_l k
    · intro y0 y1 y2
      unfold quarrelref11_Same.l0
      repeat' first
      | (with_reducible exact ih0 _ _ _)
      | (with_reducible exact LeO.refl _)
      | (with_reducible exact LeO.none _)
      | (with_reducible refine LeO.ite ?_ ?_)
      | (with_reducible refine LeO.bind ?_ (fun _ => ?_))
      | exact ih0 _ _ _
      | exact LeO.none _
      | refine LeO.ite ?_ ?_
      | refine LeO.bind ?_ (fun _ => ?_)
theorem quarrelref11_Same.mono : ∀ a0 a1 k, LeO (quarrelref11_Same.f k a0 a1) (quarrelref11_Same.f (k + 1) a0 a1) := by
  intro a0 a1 k
  have ih0 := quarrelref11_Same.mono_l k
  unfold quarrelref11_Same.f
  repeat' first
      | (with_reducible exact ih0 _ _ _)
      | (with_reducible exact LeO.refl _)
      | (with_reducible exact LeO.none _)
      | (with_reducible refine LeO.ite ?_ ?_)
      | (with_reducible refine LeO.bind ?_ (fun _ => ?_))
      | exact ih0 _ _ _
      | exact LeO.none _
      | refine LeO.ite ?_ ?_
      | refine LeO.bind ?_ (fun _ => ?_)
end Go.Proofs.Ythfkgnkojhocbaa.S
end
section
namespace Go.Proofs.Ythfkgnkojhocbaa.S
open Go.RowKit Go.Proofs.YthfkgnkojhocbaaW.PrintWords Go.Proofs.YthfkgnkojhocbaaW.PrintLast Go.Proofs.YthfkgnkojhocbaaW.PrintMore
attribute [local go_sem] max2_int min2_int max_two min_two max_three min_three max_four min_four
set_option linter.unusedVariables false
set_option linter.unusedSimpArgs false
attribute [local go_sem high] eqA25
mutual
def quarrellaw20_same.j0 : Nat → Bool → Int → Int → Int → Int → Int → Int → List Int → List Int → List (List (List (S80))) → List Int → Int → Int → Int → Int → Int → Int → List Int → List Int → List (List (List (S80))) → List Int → Option (Bool)
  | 0, _, _, _, _, _, _, _, _, _, _, _, _, _, _, _, _, _, _, _, _, _ => none
  | k + 1, x45, x174000, x174001, x174002, x174003, x174004, x174005, x174006, x174007, x174008, x174009, x175000, x175001, x175002, x175003, x175004, x175005, x175006, x175007, x175008, x175009 => if x45 = true then (some false) else (quarrellaw20_same.l0 k 0 x174000 x174001 x174002 x174003 x174004 x174005 x174006 x174007 x174008 x174009 x175000 x175001 x175002 x175003 x175004 x175005 x175006 x175007 x175008 x175009)
def quarrellaw20_same.l0 : Nat → Int → Int → Int → Int → Int → Int → Int → List Int → List Int → List (List (List (S80))) → List Int → Int → Int → Int → Int → Int → Int → List Int → List Int → List (List (List (S80))) → List Int → Option (Bool)
  | 0, _, _, _, _, _, _, _, _, _, _, _, _, _, _, _, _, _, _, _, _, _ => none
  | k + 1, x5, x174000, x174001, x174002, x174003, x174004, x174005, x174006, x174007, x174008, x174009, x175000, x175001, x175002, x175003, x175004, x175005, x175006, x175007, x175008, x175009 => if x5 < (x174008.length : Int) then (if 0 ≤ x5 then (if x5 < (x175008.length : Int) then (if ((rd_L7 x174008 x5).length : Int) = ((rd_L7 x175008 x5).length : Int) then (quarrellaw20_same.l1 k x5 0 x174000 x174001 x174002 x174003 x174004 x174005 x174006 x174007 x174008 x174009 x175000 x175001 x175002 x175003 x175004 x175005 x175006 x175007 x175008 x175009) else (some false)) else (none)) else (none)) else (some true)
def quarrellaw20_same.l1 : Nat → Int → Int → Int → Int → Int → Int → Int → Int → List Int → List Int → List (List (List (S80))) → List Int → Int → Int → Int → Int → Int → Int → List Int → List Int → List (List (List (S80))) → List Int → Option (Bool)
  | 0, _, _, _, _, _, _, _, _, _, _, _, _, _, _, _, _, _, _, _, _, _, _ => none
  | k + 1, x5, x6, x174000, x174001, x174002, x174003, x174004, x174005, x174006, x174007, x174008, x174009, x175000, x175001, x175002, x175003, x175004, x175005, x175006, x175007, x175008, x175009 => if 0 ≤ x5 then (if x5 < (x174008.length : Int) then (if x6 < ((rd_L7 x174008 x5).length : Int) then (if 0 ≤ x6 then (if x5 < (x175008.length : Int) then (if x6 < ((rd_L7 x175008 x5).length : Int) then ((quarrelref11_Same.f k (rd_L6 (rd_L7 x174008 x5) x6) (rd_L6 (rd_L7 x175008 x5) x6)).bind fun t184 => (if t184 = true then (quarrellaw20_same.l1 k x5 (wrap64 (x6 + 1)) x174000 x174001 x174002 x174003 x174004 x174005 x174006 x174007 x174008 x174009 x175000 x175001 x175002 x175003 x175004 x175005 x175006 x175007 x175008 x175009) else (some false))) else (none)) else (none)) else (none)) else (quarrellaw20_same.l0 k (wrap64 (x5 + 1)) x174000 x174001 x174002 x174003 x174004 x174005 x174006 x174007 x174008 x174009 x175000 x175001 x175002 x175003 x175004 x175005 x175006 x175007 x175008 x175009)) else (none)) else (none)
end
def quarrellaw20_same.f (k : Nat) (a0_0 : Int) (a0_1 : Int) (a0_2 : Int) (a0_3 : Int) (a0_4 : Int) (a0_5 : Int) (l0_6 : List Int) (l0_7 : List Int) (l0_8 : List (List (List (S80)))) (l0_9 : List Int) (a1_0 : Int) (a1_1 : Int) (a1_2 : Int) (a1_3 : Int) (a1_4 : Int) (a1_5 : Int) (l1_6 : List Int) (l1_7 : List Int) (l1_8 : List (List (List (S80)))) (l1_9 : List Int) : Option (Bool) := if (!(a0_0 == a1_0) || (!(a0_1 == a1_1) || (!(a0_2 == a1_2) || (!(a0_3 == a1_3) || (!(a0_4 == a1_4) || (!(a0_5 == a1_5))))))) = true then (quarrellaw20_same.j0 k true a0_0 a0_1 a0_2 a0_3 a0_4 a0_5 l0_6 l0_7 l0_8 l0_9 a1_0 a1_1 a1_2 a1_3 a1_4 a1_5 l1_6 l1_7 l1_8 l1_9) else ((quarrelref01_Vals.f k l0_6 l1_6).bind fun t175 => (if t175 = true then (if (strOfNums l0_7).toList = (strOfNums l1_7).toList then ((quarrelref01_Ints.f k l0_9 l1_9).bind fun t176 => (if t176 = true then (quarrellaw20_same.j0 k ((l0_8.length : Int) != (l1_8.length : Int)) a0_0 a0_1 a0_2 a0_3 a0_4 a0_5 l0_6 l0_7 l0_8 l0_9 a1_0 a1_1 a1_2 a1_3 a1_4 a1_5 l1_6 l1_7 l1_8 l1_9) else (quarrellaw20_same.j0 k true a0_0 a0_1 a0_2 a0_3 a0_4 a0_5 l0_6 l0_7 l0_8 l0_9 a1_0 a1_1 a1_2 a1_3 a1_4 a1_5 l1_6 l1_7 l1_8 l1_9))) else (quarrellaw20_same.j0 k true a0_0 a0_1 a0_2 a0_3 a0_4 a0_5 l0_6 l0_7 l0_8 l0_9 a1_0 a1_1 a1_2 a1_3 a1_4 a1_5 l1_6 l1_7 l1_8 l1_9)) else (quarrellaw20_same.j0 k true a0_0 a0_1 a0_2 a0_3 a0_4 a0_5 l0_6 l0_7 l0_8 l0_9 a1_0 a1_1 a1_2 a1_3 a1_4 a1_5 l1_6 l1_7 l1_8 l1_9)))
theorem quarrellaw20_same.mono_l : ∀ k, (∀ y0 y1 y2 y3 y4 y5 y6 y7 y8 y9 y10 y11 y12 y13 y14 y15 y16 y17 y18 y19 y20, LeO (quarrellaw20_same.j0 k y0 y1 y2 y3 y4 y5 y6 y7 y8 y9 y10 y11 y12 y13 y14 y15 y16 y17 y18 y19 y20) (quarrellaw20_same.j0 (k + 1) y0 y1 y2 y3 y4 y5 y6 y7 y8 y9 y10 y11 y12 y13 y14 y15 y16 y17 y18 y19 y20)) ∧ (∀ y0 y1 y2 y3 y4 y5 y6 y7 y8 y9 y10 y11 y12 y13 y14 y15 y16 y17 y18 y19 y20, LeO (quarrellaw20_same.l0 k y0 y1 y2 y3 y4 y5 y6 y7 y8 y9 y10 y11 y12 y13 y14 y15 y16 y17 y18 y19 y20) (quarrellaw20_same.l0 (k + 1) y0 y1 y2 y3 y4 y5 y6 y7 y8 y9 y10 y11 y12 y13 y14 y15 y16 y17 y18 y19 y20)) ∧ (∀ y0 y1 y2 y3 y4 y5 y6 y7 y8 y9 y10 y11 y12 y13 y14 y15 y16 y17 y18 y19 y20 y21, LeO (quarrellaw20_same.l1 k y0 y1 y2 y3 y4 y5 y6 y7 y8 y9 y10 y11 y12 y13 y14 y15 y16 y17 y18 y19 y20 y21) (quarrellaw20_same.l1 (k + 1) y0 y1 y2 y3 y4 y5 y6 y7 y8 y9 y10 y11 y12 y13 y14 y15 y16 y17 y18 y19 y20 y21))
  | 0 => ⟨fun _ _ _ _ _ _ _ _ _ _ _ _ _ _ _ _ _ _ _ _ _ r h => by simp [quarrellaw20_same.j0] at h, fun _ _ _ _ _ _ _ _ _ _ _ _ _ _ _ _ _ _ _ _ _ r h => by simp [quarrellaw20_same.l0] at h, fun _ _ _ _ _ _ _ _ _ _ _ _ _ _ _ _ _ _ _ _ _ _ r h => by simp [quarrellaw20_same.l1] at h⟩
  | k + 1 => by
    obtain ⟨ih0, ih1, ih2⟩ := quarrellaw20_same.mono_l k
    refine ⟨?_, ?_, ?_⟩
    · intro y0 y1 y2 y3 y4 y5 y6 y7 y8 y9 y10 y11 y12 y13 y14 y15 y16 y17 y18 y19 y20
      unfold quarrellaw20_same.j0
      repeat' first
      | (with_reducible exact ih0 _ _ _ _ _ _ _ _ _ _ _ _ _ _ _ _ _ _ _ _ _)
      | (with_reducible exact ih1 _ _ _ _ _ _ _ _ _ _ _ _ _ _ _ _ _ _ _ _ _)
      | (with_reducible exact ih2 _ _ _ _ _ _ _ _ _ _ _ _ _ _ _ _ _ _ _ _ _ _)
      | (with_reducible exact quarrelref01_Ints.mono _ _ _)
      | (with_reducible exact quarrelref01_Vals.mono _ _ _)
      | (with_reducible exact quarrelref11_Same.mono _ _ _)
      | (with_reducible exact LeO.refl _)
      | (with_reducible exact LeO.none _)
      | (with_reducible refine LeO.ite ?_ ?_)
      | (with_reducible refine LeO.bind ?_ (fun _ => ?_))
      | exact ih0 _ _ _ _ _ _ _ _ _ _ _ _ _ _ _ _ _ _ _ _ _
      | exact ih1 _ _ _ _ _ _ _ _ _ _ _ _ _ _ _ _ _ _ _ _ _
      | exact ih2 _ _ _ _ _ _ _ _ _ _ _ _ _ _ _ _ _ _ _ _ _ _
      | exact quarrelref01_Ints.mono _ _ _
      | exact quarrelref01_Vals.mono _ _ _
      | exact quarrelref11_Same.mono _ _ _
      | exact LeO.none _
      | refine LeO.ite ?_ ?_
      | refine LeO.bind ?_ (fun _ => ?_)
    · intro y0 y1 y2 y3 y4 y5 y6 y7 y8 y9 y10 y11 y12 y13 y14 y15 y16 y17 y18 y19 y20
      unfold quarrellaw20_same.l0
      repeat' first
      | (with_reducible exact ih0 _ _ _ _ _ _ _ _ _ _ _ _ _ _ _ _ _ _ _ _ _)
      | (with_reducible exact ih1 _ _ _ _ _ _ _ _ _ _ _ _ _ _ _ _ _ _ _ _ _)
      | (with_reducible exact ih2 _ _ _ _ _ _ _ _ _ _ _ _ _ _ _ _ _ _ _ _ _ _)
      | (with_reducible exact quarrelref01_Ints.mono _ _ _)
      | (with_reducible exact quarrelref01_Vals.mono _ _ _)
      | (with_reducible exact quarrelref11_Same.mono _ _ _)
      | (with_reducible exact LeO.refl _)
      | (with_reducible exact LeO.none _)
      | (with_reducible refine LeO.ite ?_ ?_)
      | (with_reducible refine LeO.bind ?_ (fun _ => ?_))
      | exact ih0 _ _ _ _ _ _ _ _ _ _ _ _ _ _ _ _ _ _ _ _ _
      | exact ih1 _ _ _ _ _ _ _ _ _ _ _ _ _ _ _ _ _ _ _ _ _
      | exact ih2 _ _ _ _ _ _ _ _ _ _ _ _ _ _ _ _ _ _ _ _ _ _
      | exact quarrelref01_Ints.mono _ _ _
      | exact quarrelref01_Vals.mono _ _ _
      | exact quarrelref11_Same.mono _ _ _
      | exact LeO.none _
      | refine LeO.ite ?_ ?_
      | refine LeO.bind ?_ (fun _ => ?_)
    · intro y0 y1 y2 y3 y4 y5 y6 y7 y8 y9 y10 y11 y12 y13 y14 y15 y16 y17 y18 y19 y20 y21
      unfold quarrellaw20_same.l1
      repeat' first
      | (with_reducible exact ih0 _ _ _ _ _ _ _ _ _ _ _ _ _ _ _ _ _ _ _ _ _)
      | (with_reducible exact ih1 _ _ _ _ _ _ _ _ _ _ _ _ _ _ _ _ _ _ _ _ _)
      | (with_reducible exact ih2 _ _ _ _ _ _ _ _ _ _ _ _ _ _ _ _ _ _ _ _ _ _)
      | (with_reducible exact quarrelref01_Ints.mono _ _ _)
      | (with_reducible exact quarrelref01_Vals.mono _ _ _)
      | (with_reducible exact quarrelref11_Same.mono _ _ _)
      | (with_reducible exact LeO.refl _)
      | (with_reducible exact LeO.none _)
      | (with_reducible refine LeO.ite ?_ ?_)
      | (with_reducible refine LeO.bind ?_ (fun _ => ?_))
      | exact ih0 _ _ _ _ _ _ _ _ _ _ _ _ _ _ _ _ _ _ _ _ _
      | exact ih1 _ _ _ _ _ _ _ _ _ _ _ _ _ _ _ _ _ _ _ _ _
      | exact ih2 _ _ _ _ _ _ _ _ _ _ _ _ _ _ _ _ _ _ _ _ _ _
      | exact quarrelref01_Ints.mono _ _ _
      | exact quarrelref01_Vals.mono _ _ _
      | exact quarrelref11_Same.mono _ _ _
      | exact LeO.none _
      | refine LeO.ite ?_ ?_
      | refine LeO.bind ?_ (fun _ => ?_)
theorem quarrellaw20_same.mono : ∀ a0 a1 a2 a3 a4 a5 a6 a7 a8 a9 a10 a11 a12 a13 a14 a15 a16 a17 a18 a19 k, LeO (quarrellaw20_same.f k a0 a1 a2 a3 a4 a5 a6 a7 a8 a9 a10 a11 a12 a13 a14 a15 a16 a17 a18 a19) (quarrellaw20_same.f (k + 1) a0 a1 a2 a3 a4 a5 a6 a7 a8 a9 a10 a11 a12 a13 a14 a15 a16 a17 a18 a19) := by
  intro a0 a1 a2 a3 a4 a5 a6 a7 a8 a9 a10 a11 a12 a13 a14 a15 a16 a17 a18 a19 k
  obtain ⟨ih0, ih1, ih2⟩ := quarrellaw20_same.mono_l k
  unfold quarrellaw20_same.f
  repeat' first
      | (with_reducible exact ih0 _ _ _ _ _ _ _ _ _ _ _ _ _ _ _ _ _ _ _ _ _)
      | (with_reducible exact ih1 _ _ _ _ _ _ _ _ _ _ _ _ _ _ _ _ _ _ _ _ _)
      | (with_reducible exact ih2 _ _ _ _ _ _ _ _ _ _ _ _ _ _ _ _ _ _ _ _ _ _)
      | (with_reducible exact quarrelref01_Ints.mono _ _ _)
      | (with_reducible exact quarrelref01_Vals.mono _ _ _)
      | (with_reducible exact quarrelref11_Same.mono _ _ _)
      | (with_reducible exact LeO.refl _)
      | (with_reducible exact LeO.none _)
      | (with_reducible refine LeO.ite ?_ ?_)
      | (with_reducible refine LeO.bind ?_ (fun _ => ?_))
      | exact ih0 _ _ _ _ _ _ _ _ _ _ _ _ _ _ _ _ _ _ _ _ _
      | exact ih1 _ _ _ _ _ _ _ _ _ _ _ _ _ _ _ _ _ _ _ _ _
      | exact ih2 _ _ _ _ _ _ _ _ _ _ _ _ _ _ _ _ _ _ _ _ _ _
      | exact quarrelref01_Ints.mono _ _ _
      | exact quarrelref01_Vals.mono _ _ _
      | exact quarrelref11_Same.mono _ _ _
      | exact LeO.none _
      | refine LeO.ite ?_ ?_
      | refine LeO.bind ?_ (fun _ => ?_)
end Go.Proofs.Ythfkgnkojhocbaa.S
end
section
namespace Go.Proofs.Ythfkgnkojhocbaa.S
open Go.RowKit Go.Proofs.YthfkgnkojhocbaaW.PrintWords Go.Proofs.YthfkgnkojhocbaaW.PrintLast Go.Proofs.YthfkgnkojhocbaaW.PrintMore
attribute [local go_sem] max2_int min2_int max_two min_two max_three min_three max_four min_four
set_option linter.unusedVariables false
set_option linter.unusedSimpArgs false
def quarrelref13_New.f (k : Nat) (a0_0 : Int) (a0_1 : Int) (a0_2 : Int) (a0_3 : Int) (a0_4 : Int) (a0_5 : Int) (l1 : List Int) : Option (Int) := (quarrelref13_Check.f k a0_0 a0_1 a0_2 a0_3 a0_4 a0_5).bind fun t243 => (if t243 = true then (if (l1.length : Int) = a0_0 then (if (wrap64 (2 * (l1.length : Int))) > a0_2 then (some 4) else (some 0)) else (some 3)) else (some 2))
theorem quarrelref13_New.mono : ∀ a0 a1 a2 a3 a4 a5 a6 k, LeO (quarrelref13_New.f k a0 a1 a2 a3 a4 a5 a6) (quarrelref13_New.f (k + 1) a0 a1 a2 a3 a4 a5 a6) := by
  intro a0 a1 a2 a3 a4 a5 a6 k
  unfold quarrelref13_New.f
  repeat' first
      | (with_reducible exact quarrelref13_Check.mono _ _ _ _ _ _ _)
      | (with_reducible exact LeO.refl _)
      | (with_reducible exact LeO.none _)
      | (with_reducible refine LeO.ite ?_ ?_)
      | (with_reducible refine LeO.bind ?_ (fun _ => ?_))
      | exact quarrelref13_Check.mono _ _ _ _ _ _ _
      | exact LeO.none _
      | refine LeO.ite ?_ ?_
      | refine LeO.bind ?_ (fun _ => ?_)
def quarrelref11_Right.l0 : Nat → List (S80) → Int → Int → Option (Bool)
  | 0, _, _, _ => none
  | k + 1, x0, x1, x5 => if x5 < (x0.length : Int) then (if 0 ≤ x5 then ((quarrelref11_Ok.f k ((rd_T80 x0 x5).f0) ((rd_T80 x0 x5).f1) ((rd_T80 x0 x5).f2) x1).bind fun t245 => (if t245 = true then (quarrelref11_Right.l0 k x0 x1 (wrap64 (x5 + 1))) else (some false))) else (none)) else (if (x0.length : Int) > 0 then (some (decide ((x0.length : Int) < 9))) else (some false))
def quarrelref11_Right.f (k : Nat) (l0 : List (S80)) (a1 : Int) : Option (Bool) := quarrelref11_Right.l0 k l0 a1 0
theorem quarrelref11_Right.mono_l : ∀ k, (∀ y0 y1 y2, LeO (quarrelref11_Right.l0 k y0 y1 y2) (quarrelref11_Right.l0 (k + 1) y0 y1 y2))
  | 0 => fun _ _ _ r h => by simp [quarrelref11_Right.l0] at h
  | k + 1 => by
    have ih0 := quarrelref11_Right.mono_l k
    · intro y0 y1 y2
      unfold quarrelref11_Right.l0
      repeat' first
      | (with_reducible exact ih0 _ _ _)
      | (with_reducible exact quarrelref11_Ok.mono _ _ _ _ _)
      | (with_reducible exact LeO.refl _)
      | (with_reducible exact LeO.none _)
      | (with_reducible refine LeO.ite ?_ ?_)
      | (with_reducible refine LeO.bind ?_ (fun _ => ?_))
      | exact ih0 _ _ _
      | exact quarrelref11_Ok.mono _ _ _ _ _
      | exact LeO.none _
      | refine LeO.ite ?_ ?_
      | refine LeO.bind ?_ (fun _ => ?_)
theorem quarrelref11_Right.mono : ∀ a0 a1 k, LeO (quarrelref11_Right.f k a0 a1) (quarrelref11_Right.f (k + 1) a0 a1) := by
  intro a0 a1 k
  have ih0 := quarrelref11_Right.mono_l k
  unfold quarrelref11_Right.f
  repeat' first
      | (with_reducible exact ih0 _ _ _)
      | (with_reducible exact quarrelref11_Ok.mono _ _ _ _ _)
      | (with_reducible exact LeO.refl _)
      | (with_reducible exact LeO.none _)
      | (with_reducible refine LeO.ite ?_ ?_)
      | (with_reducible refine LeO.bind ?_ (fun _ => ?_))
      | exact ih0 _ _ _
      | exact quarrelref11_Ok.mono _ _ _ _ _
      | exact LeO.none _
      | refine LeO.ite ?_ ?_
      | refine LeO.bind ?_ (fun _ => ?_)
end Go.Proofs.Ythfkgnkojhocbaa.S
end
section
namespace Go.Proofs.Ythfkgnkojhocbaa.S
open Go.RowKit Go.Proofs.YthfkgnkojhocbaaW.PrintWords Go.Proofs.YthfkgnkojhocbaaW.PrintLast Go.Proofs.YthfkgnkojhocbaaW.PrintMore
attribute [local go_sem] max2_int min2_int max_two min_two max_three min_three max_four min_four
set_option linter.unusedVariables false
set_option linter.unusedSimpArgs false
mutual
def quarrelref20_Ok.j0 : Nat → Bool → Int → Int → Int → Int → Int → Int → List Int → List Int → List (List (List (S80))) → List Int → Option (Bool)
  | 0, _, _, _, _, _, _, _, _, _, _, _ => none
  | k + 1, x27, x247000, x247001, x247002, x247003, x247004, x247005, x247006, x247007, x247008, x247009 => if x27 = true then (some false) else (quarrelref20_Ok.l0 k 0 x247000 x247001 x247002 x247003 x247004 x247005 x247006 x247007 x247008 x247009)
def quarrelref20_Ok.l0 : Nat → Int → Int → Int → Int → Int → Int → Int → List Int → List Int → List (List (List (S80))) → List Int → Option (Bool)
  | 0, _, _, _, _, _, _, _, _, _, _, _ => none
  | k + 1, x3, x247000, x247001, x247002, x247003, x247004, x247005, x247006, x247007, x247008, x247009 => if x3 < (x247006.length : Int) then (if 0 ≤ x3 then (if (rd x247006 x3) < (-128) then (some false) else (if (rd x247006 x3) > 127 then (some false) else (quarrelref20_Ok.l0 k (wrap64 (x3 + 1)) x247000 x247001 x247002 x247003 x247004 x247005 x247006 x247007 x247008 x247009))) else (none)) else (quarrelref20_Ok.l1 k 0 x247000 x247001 x247002 x247003 x247004 x247005 x247006 x247007 x247008 x247009)
def quarrelref20_Ok.l1 : Nat → Int → Int → Int → Int → Int → Int → Int → List Int → List Int → List (List (List (S80))) → List Int → Option (Bool)
  | 0, _, _, _, _, _, _, _, _, _, _, _ => none
  | k + 1, x4, x247000, x247001, x247002, x247003, x247004, x247005, x247006, x247007, x247008, x247009 => if x4 < (x247009.length : Int) then (if 0 ≤ x4 then (if (rd x247009 x4) < 0 then (some false) else (if (rd x247009 x4) > 255 then (some false) else (quarrelref20_Ok.l1 k (wrap64 (x4 + 1)) x247000 x247001 x247002 x247003 x247004 x247005 x247006 x247007 x247008 x247009))) else (none)) else (quarrelref20_Ok.l2 k 0 x247000 x247001 x247002 x247003 x247004 x247005 x247006 x247007 x247008 x247009)
def quarrelref20_Ok.l2 : Nat → Int → Int → Int → Int → Int → Int → Int → List Int → List Int → List (List (List (S80))) → List Int → Option (Bool)
  | 0, _, _, _, _, _, _, _, _, _, _, _ => none
  | k + 1, x5, x247000, x247001, x247002, x247003, x247004, x247005, x247006, x247007, x247008, x247009 => if x5 < (x247008.length : Int) then (if 0 ≤ x5 then (if ((rd_L7 x247008 x5).length : Int) > 6 then (some false) else (quarrelref20_Ok.l3 k x5 0 x247000 x247001 x247002 x247003 x247004 x247005 x247006 x247007 x247008 x247009)) else (none)) else (some true)
def quarrelref20_Ok.l3 : Nat → Int → Int → Int → Int → Int → Int → Int → Int → List Int → List Int → List (List (List (S80))) → List Int → Option (Bool)
  | 0, _, _, _, _, _, _, _, _, _, _, _, _ => none
  | k + 1, x5, x6, x247000, x247001, x247002, x247003, x247004, x247005, x247006, x247007, x247008, x247009 => if 0 ≤ x5 then (if x5 < (x247008.length : Int) then (if x6 < ((rd_L7 x247008 x5).length : Int) then (if 0 ≤ x6 then ((quarrelref11_Right.f k (rd_L6 (rd_L7 x247008 x5) x6) x247000).bind fun t256 => (if t256 = true then (quarrelref20_Ok.l3 k x5 (wrap64 (x6 + 1)) x247000 x247001 x247002 x247003 x247004 x247005 x247006 x247007 x247008 x247009) else (some false))) else (none)) else (quarrelref20_Ok.l2 k (wrap64 (x5 + 1)) x247000 x247001 x247002 x247003 x247004 x247005 x247006 x247007 x247008 x247009)) else (none)) else (none)
end
def quarrelref20_Ok.f (k : Nat) (a0_0 : Int) (a0_1 : Int) (a0_2 : Int) (a0_3 : Int) (a0_4 : Int) (a0_5 : Int) (l0_6 : List Int) (l0_7 : List Int) (l0_8 : List (List (List (S80)))) (l0_9 : List Int) : Option (Bool) := (quarrelref13_New.f k a0_0 a0_1 a0_2 a0_3 a0_4 a0_5 l0_6).bind fun t247 => (if t247 = 0 then (if (l0_8.length : Int) = a0_1 then (quarrelref20_Ok.j0 k (decide ((l0_7.length : Int) > 255)) a0_0 a0_1 a0_2 a0_3 a0_4 a0_5 l0_6 l0_7 l0_8 l0_9) else (quarrelref20_Ok.j0 k true a0_0 a0_1 a0_2 a0_3 a0_4 a0_5 l0_6 l0_7 l0_8 l0_9)) else (quarrelref20_Ok.j0 k true a0_0 a0_1 a0_2 a0_3 a0_4 a0_5 l0_6 l0_7 l0_8 l0_9))
theorem quarrelref20_Ok.mono_l : ∀ k, (∀ y0 y1 y2 y3 y4 y5 y6 y7 y8 y9 y10, LeO (quarrelref20_Ok.j0 k y0 y1 y2 y3 y4 y5 y6 y7 y8 y9 y10) (quarrelref20_Ok.j0 (k + 1) y0 y1 y2 y3 y4 y5 y6 y7 y8 y9 y10)) ∧ (∀ y0 y1 y2 y3 y4 y5 y6 y7 y8 y9 y10, LeO (quarrelref20_Ok.l0 k y0 y1 y2 y3 y4 y5 y6 y7 y8 y9 y10) (quarrelref20_Ok.l0 (k + 1) y0 y1 y2 y3 y4 y5 y6 y7 y8 y9 y10)) ∧ (∀ y0 y1 y2 y3 y4 y5 y6 y7 y8 y9 y10, LeO (quarrelref20_Ok.l1 k y0 y1 y2 y3 y4 y5 y6 y7 y8 y9 y10) (quarrelref20_Ok.l1 (k + 1) y0 y1 y2 y3 y4 y5 y6 y7 y8 y9 y10)) ∧ (∀ y0 y1 y2 y3 y4 y5 y6 y7 y8 y9 y10, LeO (quarrelref20_Ok.l2 k y0 y1 y2 y3 y4 y5 y6 y7 y8 y9 y10) (quarrelref20_Ok.l2 (k + 1) y0 y1 y2 y3 y4 y5 y6 y7 y8 y9 y10)) ∧ (∀ y0 y1 y2 y3 y4 y5 y6 y7 y8 y9 y10 y11, LeO (quarrelref20_Ok.l3 k y0 y1 y2 y3 y4 y5 y6 y7 y8 y9 y10 y11) (quarrelref20_Ok.l3 (k + 1) y0 y1 y2 y3 y4 y5 y6 y7 y8 y9 y10 y11))
  | 0 => ⟨fun _ _ _ _ _ _ _ _ _ _ _ r h => by simp [quarrelref20_Ok.j0] at h, fun _ _ _ _ _ _ _ _ _ _ _ r h => by simp [quarrelref20_Ok.l0] at h, fun _ _ _ _ _ _ _ _ _ _ _ r h => by simp [quarrelref20_Ok.l1] at h, fun _ _ _ _ _ _ _ _ _ _ _ r h => by simp [quarrelref20_Ok.l2] at h, fun _ _ _ _ _ _ _ _ _ _ _ _ r h => by simp [quarrelref20_Ok.l3] at h⟩
  | k + 1 => by
    obtain ⟨ih0, ih1, ih2, ih3, ih4⟩ := quarrelref20_Ok.mono_l k
    refine ⟨?_, ?_, ?_, ?_, ?_⟩
    · intro y0 y1 y2 y3 y4 y5 y6 y7 y8 y9 y10
      unfold quarrelref20_Ok.j0
      repeat' first
      | (with_reducible exact ih0 _ _ _ _ _ _ _ _ _ _ _)
      | (with_reducible exact ih1 _ _ _ _ _ _ _ _ _ _ _)
      | (with_reducible exact ih2 _ _ _ _ _ _ _ _ _ _ _)
      | (with_reducible exact ih3 _ _ _ _ _ _ _ _ _ _ _)
      | (with_reducible exact ih4 _ _ _ _ _ _ _ _ _ _ _ _)
      | (with_reducible exact quarrelref11_Right.mono _ _ _)
      | (with_reducible exact quarrelref13_New.mono _ _ _ _ _ _ _ _)
      | (with_reducible exact LeO.refl _)
      | (with_reducible exact LeO.none _)
      | (with_reducible refine LeO.ite ?_ ?_)
      | (with_reducible refine LeO.bind ?_ (fun _ => ?_))
      | exact ih0 _ _ _ _ _ _ _ _ _ _ _
      | exact ih1 _ _ _ _ _ _ _ _ _ _ _
      | exact ih2 _ _ _ _ _ _ _ _ _ _ _
      | exact ih3 _ _ _ _ _ _ _ _ _ _ _
      | exact ih4 _ _ _ _ _ _ _ _ _ _ _ _
      | exact quarrelref11_Right.mono _ _ _
      | exact quarrelref13_New.mono _ _ _ _ _ _ _ _
      | exact LeO.none _
      | refine LeO.ite ?_ ?_
      | refine LeO.bind ?_ (fun _ => ?_)
    · intro y0 y1 y2 y3 y4 y5 y6 y7 y8 y9 y10
      unfold quarrelref20_Ok.l0
      repeat' first
      | (with_reducible exact ih0 _ _ _ _ _ _ _ _ _ _ _)
      | (with_reducible exact ih1 _ _ _ _ _ _ _ _ _ _ _)
      | (with_reducible exact ih2 _ _ _ _ _ _ _ _ _ _ _)
      | (with_reducible exact ih3 _ _ _ _ _ _ _ _ _ _ _)
      | (with_reducible exact ih4 _ _ _ _ _ _ _ _ _ _ _ _)
      | (with_reducible exact quarrelref11_Right.mono _ _ _)
      | (with_reducible exact quarrelref13_New.mono _ _ _ _ _ _ _ _)
      | (with_reducible exact LeO.refl _)
      | (with_reducible exact LeO.none _)
      | (with_reducible refine LeO.ite ?_ ?_)
      | (with_reducible refine LeO.bind ?_ (fun _ => ?_))
      | exact ih0 _ _ _ _ _ _ _ _ _ _ _
      | exact ih1 _ _ _ _ _ _ _ _ _ _ _
      | exact ih2 _ _ _ _ _ _ _ _ _ _ _
      | exact ih3 _ _ _ _ _ _ _ _ _ _ _
      | exact ih4 _ _ _ _ _ _ _ _ _ _ _ _
      | exact quarrelref11_Right.mono _ _ _
      | exact quarrelref13_New.mono _ _ _ _ _ _ _ _
      | exact LeO.none _
      | refine LeO.ite ?_ ?_
      | refine LeO.bind ?_ (fun _ => ?_)
    · intro y0 y1 y2 y3 y4 y5 y6 y7 y8 y9 y10
      unfold quarrelref20_Ok.l1
      repeat' first
      | (with_reducible exact ih0 _ _ _ _ _ _ _ _ _ _ _)
      | (with_reducible exact ih1 _ _ _ _ _ _ _ _ _ _ _)
      | (with_reducible exact ih2 _ _ _ _ _ _ _ _ _ _ _)
      | (with_reducible exact ih3 _ _ _ _ _ _ _ _ _ _ _)
      | (with_reducible exact ih4 _ _ _ _ _ _ _ _ _ _ _ _)
      | (with_reducible exact quarrelref11_Right.mono _ _ _)
      | (with_reducible exact quarrelref13_New.mono _ _ _ _ _ _ _ _)
      | (with_reducible exact LeO.refl _)
      | (with_reducible exact LeO.none _)
      | (with_reducible refine LeO.ite ?_ ?_)
      | (with_reducible refine LeO.bind ?_ (fun _ => ?_))
      | exact ih0 _ _ _ _ _ _ _ _ _ _ _
      | exact ih1 _ _ _ _ _ _ _ _ _ _ _
      | exact ih2 _ _ _ _ _ _ _ _ _ _ _
      | exact ih3 _ _ _ _ _ _ _ _ _ _ _
      | exact ih4 _ _ _ _ _ _ _ _ _ _ _ _
      | exact quarrelref11_Right.mono _ _ _
      | exact quarrelref13_New.mono _ _ _ _ _ _ _ _
      | exact LeO.none _
      | refine LeO.ite ?_ ?_
      | refine LeO.bind ?_ (fun _ => ?_)
    · intro y0 y1 y2 y3 y4 y5 y6 y7 y8 y9 y10
      unfold quarrelref20_Ok.l2
      repeat' first
      | (with_reducible exact ih0 _ _ _ _ _ _ _ _ _ _ _)
      | (with_reducible exact ih1 _ _ _ _ _ _ _ _ _ _ _)
      | (with_reducible exact ih2 _ _ _ _ _ _ _ _ _ _ _)
      | (with_reducible exact ih3 _ _ _ _ _ _ _ _ _ _ _)
      | (with_reducible exact ih4 _ _ _ _ _ _ _ _ _ _ _ _)
      | (with_reducible exact quarrelref11_Right.mono _ _ _)
      | (with_reducible exact quarrelref13_New.mono _ _ _ _ _ _ _ _)
      | (with_reducible exact LeO.refl _)
      | (with_reducible exact LeO.none _)
      | (with_reducible refine LeO.ite ?_ ?_)
      | (with_reducible refine LeO.bind ?_ (fun _ => ?_))
      | exact ih0 _ _ _ _ _ _ _ _ _ _ _
      | exact ih1 _ _ _ _ _ _ _ _ _ _ _
      | exact ih2 _ _ _ _ _ _ _ _ _ _ _
      | exact ih3 _ _ _ _ _ _ _ _ _ _ _
      | exact ih4 _ _ _ _ _ _ _ _ _ _ _ _
      | exact quarrelref11_Right.mono _ _ _
      | exact quarrelref13_New.mono _ _ _ _ _ _ _ _
      | exact LeO.none _
      | refine LeO.ite ?_ ?_
      | refine LeO.bind ?_ (fun _ => ?_)
    · intro y0 y1 y2 y3 y4 y5 y6 y7 y8 y9 y10 y11
      unfold quarrelref20_Ok.l3
      repeat' first
      | (with_reducible exact ih0 _ _ _ _ _ _ _ _ _ _ _)
      | (with_reducible exact ih1 _ _ _ _ _ _ _ _ _ _ _)
      | (with_reducible exact ih2 _ _ _ _ _ _ _ _ _ _ _)
      | (with_reducible exact ih3 _ _ _ _ _ _ _ _ _ _ _)
      | (with_reducible exact ih4 _ _ _ _ _ _ _ _ _ _ _ _)
      | (with_reducible exact quarrelref11_Right.mono _ _ _)
      | (with_reducible exact quarrelref13_New.mono _ _ _ _ _ _ _ _)
      | (with_reducible exact LeO.refl _)
      | (with_reducible exact LeO.none _)
      | (with_reducible refine LeO.ite ?_ ?_)
      | (with_reducible refine LeO.bind ?_ (fun _ => ?_))
      | exact ih0 _ _ _ _ _ _ _ _ _ _ _
      | exact ih1 _ _ _ _ _ _ _ _ _ _ _
      | exact ih2 _ _ _ _ _ _ _ _ _ _ _
      | exact ih3 _ _ _ _ _ _ _ _ _ _ _
      | exact ih4 _ _ _ _ _ _ _ _ _ _ _ _
      | exact quarrelref11_Right.mono _ _ _
      | exact quarrelref13_New.mono _ _ _ _ _ _ _ _
      | exact LeO.none _
      | refine LeO.ite ?_ ?_
      | refine LeO.bind ?_ (fun _ => ?_)
theorem quarrelref20_Ok.mono : ∀ a0 a1 a2 a3 a4 a5 a6 a7 a8 a9 k, LeO (quarrelref20_Ok.f k a0 a1 a2 a3 a4 a5 a6 a7 a8 a9) (quarrelref20_Ok.f (k + 1) a0 a1 a2 a3 a4 a5 a6 a7 a8 a9) := by
  intro a0 a1 a2 a3 a4 a5 a6 a7 a8 a9 k
  obtain ⟨ih0, ih1, ih2, ih3, ih4⟩ := quarrelref20_Ok.mono_l k
  unfold quarrelref20_Ok.f
  repeat' first
      | (with_reducible exact ih0 _ _ _ _ _ _ _ _ _ _ _)
      | (with_reducible exact ih1 _ _ _ _ _ _ _ _ _ _ _)
      | (with_reducible exact ih2 _ _ _ _ _ _ _ _ _ _ _)
      | (with_reducible exact ih3 _ _ _ _ _ _ _ _ _ _ _)
      | (with_reducible exact ih4 _ _ _ _ _ _ _ _ _ _ _ _)
      | (with_reducible exact quarrelref11_Right.mono _ _ _)
      | (with_reducible exact quarrelref13_New.mono _ _ _ _ _ _ _ _)
      | (with_reducible exact LeO.refl _)
      | (with_reducible exact LeO.none _)
      | (with_reducible refine LeO.ite ?_ ?_)
      | (with_reducible refine LeO.bind ?_ (fun _ => ?_))
      | exact ih0 _ _ _ _ _ _ _ _ _ _ _
      | exact ih1 _ _ _ _ _ _ _ _ _ _ _
      | exact ih2 _ _ _ _ _ _ _ _ _ _ _
      | exact ih3 _ _ _ _ _ _ _ _ _ _ _
      | exact ih4 _ _ _ _ _ _ _ _ _ _ _ _
      | exact quarrelref11_Right.mono _ _ _
      | exact quarrelref13_New.mono _ _ _ _ _ _ _ _
      | exact LeO.none _
      | refine LeO.ite ?_ ?_
      | refine LeO.bind ?_ (fun _ => ?_)
end Go.Proofs.Ythfkgnkojhocbaa.S
end
section
namespace Go.Proofs.Ythfkgnkojhocbaa.S
open Go Go.RowKit Go.Proofs.YthfkgnkojhocbaaW.PrintWords
set_option linter.unusedVariables false
set_option linter.unusedSimpArgs false
theorem wrap_id {n : Int} (h : -9223372036854775808 ≤ n ∧ n ≤ 9223372036854775807) : wrap64 n = n := by unfold wrap64; omega
theorem wrap_succ {i : Nat} (h : i ≤ 1000000000000) : wrap64 ((i : Int) + 1) = ((i + 1 : Nat) : Int) := by unfold wrap64; omega
theorem rd_at (l : List Int) (i : Nat) : rd l (i : Int) = l.getD i 0 := by unfold rd; rw [Int.toNat_natCast]
theorem rd80_at (l : List S80) (i : Nat) (h : i < l.length) : rd_T80 l (i : Int) = l[i] := by unfold rd_T80; simp [h]
theorem rd6_at (l : List (List S80)) (i : Nat) (h : i < l.length) : rd_L6 l (i : Int) = l[i] := by unfold rd_L6; simp [h]
theorem rd7_at (l : List (List (List S80))) (i : Nat) (h : i < l.length) : rd_L7 l (i : Int) = l[i] := by unfold rd_L7; simp [h]
theorem vals_l (l : List Int) (hl : l.length ≤ 1000000) : ∀ (d k i : Nat), i + d = l.length → d < k → quarrelref01_Vals.l0 k l l (i : Int) = some true := by
  intro d
  induction d with
  | zero =>
    intro k i hi hk
    obtain ⟨k, rfl⟩ : ∃ m, k = m + 1 := ⟨k - 1, by omega⟩
    rw [quarrelref01_Vals.l0, if_neg (show ¬ ((i : Int) < (l.length : Int)) by omega)]
  | succ d ih =>
    intro k i hi hk
    obtain ⟨k, rfl⟩ : ∃ m, k = m + 1 := ⟨k - 1, by omega⟩
    rw [quarrelref01_Vals.l0, if_pos (show (i : Int) < (l.length : Int) by omega), if_pos (show (0 : Int) ≤ (i : Int) by omega), if_pos (show (i : Int) < (l.length : Int) by omega), if_pos rfl, wrap_succ (by omega)]
    exact ih k (i + 1) (by omega) (by omega)
theorem vals_f (l : List Int) (hl : l.length ≤ 1000000) (k : Nat) (hk : l.length < k) : quarrelref01_Vals.f k l l = some true := by
  unfold quarrelref01_Vals.f
  rw [if_pos rfl]
  exact vals_l l hl l.length k 0 (by omega) hk
/-- Few enough. -/
def Few (t : List (List S80)) : Prop := t.length ≤ 20 ∧ ∀ o ∈ t, o.length ≤ 20
section
variable (x0 x1 x2 x3 x4 x5 : Int) (f d p f' d' p' : List Int) (al : List (List (List S80))) (ha : al.length ≤ 10) (hf : ∀ t ∈ al, Few t)
include ha hf
end
section
variable (x0 x1 x2 x3 x4 x5 : Int) (f d : List Int) (al : List (List (List S80))) (ha : al.length ≤ 10)
include ha
theorem great_l1 (i : Nat) (hi : i < al.length) (h20 : al[i].length ≤ 20) (B : Nat) (H : ∀ k, B < k → ∃ v, quarrellaw16_Great.l0 k ((i + 1 : Nat) : Int) x0 x1 x2 x3 x4 x5 f d al = some v ∧ (v ≤ 0 → ∀ t ∈ al.drop (i + 1), Few t)) :
    ∀ (e k j : Nat), j + e = al[i].length → e + 1 + B < k → ∃ v, quarrellaw16_Great.l1 k (i : Int) (j : Int) x0 x1 x2 x3 x4 x5 f d al = some v ∧ (v ≤ 0 → (∀ o ∈ al[i].drop j, o.length ≤ 20) ∧ ∀ t ∈ al.drop (i + 1), Few t) := by
  have h7 := rd7_at al i hi
  intro e
  induction e with
  | zero =>
    intro k j hj hk
    obtain ⟨k, rfl⟩ : ∃ m, k = m + 1 := ⟨k - 1, by omega⟩
    rw [quarrellaw16_Great.l1, h7, if_pos (show (0 : Int) ≤ (i : Int) by omega), if_pos (show (i : Int) < (al.length : Int) by omega), if_neg (show ¬ ((j : Int) < (al[i].length : Int)) by omega), wrap_succ (by omega)]
    obtain ⟨v, e1, e2⟩ := H k (by omega)
    refine ⟨v, e1, fun h => ⟨fun o ho => ?_, e2 h⟩⟩
    rw [List.drop_eq_nil_of_le (by omega)] at ho
    cases ho
  | succ e ih =>
    intro k j hj hk
    obtain ⟨k, rfl⟩ : ∃ m, k = m + 1 := ⟨k - 1, by omega⟩
    have hj' : j < al[i].length := by omega
    rw [quarrellaw16_Great.l1, h7, if_pos (show (0 : Int) ≤ (i : Int) by omega), if_pos (show (i : Int) < (al.length : Int) by omega), if_pos (show (j : Int) < (al[i].length : Int) by omega), if_pos (show (0 : Int) ≤ (j : Int) by omega), rd6_at al[i] j hj']
    by_cases h : (al[i][j].length : Int) > 20
    · rw [if_pos h]
      exact ⟨1, rfl, fun h' => by omega⟩
    · rw [if_neg h, wrap_succ (by omega)]
      obtain ⟨v, e1, e2⟩ := ih k (j + 1) (by omega) (by omega)
      refine ⟨v, e1, fun h' => ⟨fun o ho => ?_, (e2 h').2⟩⟩
      rw [List.drop_eq_getElem_cons hj'] at ho
      rcases List.mem_cons.1 ho with rfl | ho
      · omega
      · exact (e2 h').1 o ho
theorem great_l0 : ∀ (e k i : Nat), i + e = al.length → 100 * e + 50 < k → ∃ v, quarrellaw16_Great.l0 k (i : Int) x0 x1 x2 x3 x4 x5 f d al = some v ∧ (v ≤ 0 → ∀ t ∈ al.drop i, Few t) := by
  intro e
  induction e with
  | zero =>
    intro k i hi hk
    obtain ⟨k, rfl⟩ : ∃ m, k = m + 1 := ⟨k - 1, by omega⟩
    rw [quarrellaw16_Great.l0, if_neg (show ¬ ((i : Int) < (al.length : Int)) by omega)]
    refine ⟨0, rfl, fun _ t ht => ?_⟩
    rw [List.drop_eq_nil_of_le (by omega)] at ht
    cases ht
  | succ e ih =>
    intro k i hi hk
    obtain ⟨k, rfl⟩ : ∃ m, k = m + 1 := ⟨k - 1, by omega⟩
    have hi' : i < al.length := by omega
    rw [quarrellaw16_Great.l0, if_pos (show (i : Int) < (al.length : Int) by omega), if_pos (show (0 : Int) ≤ (i : Int) by omega), rd7_at al i hi']
    by_cases h : (al[i].length : Int) > 20
    · rw [if_pos h]
      exact ⟨1, rfl, fun h' => by omega⟩
    · rw [if_neg h]
      obtain ⟨v, e1, e2⟩ := great_l1 x0 x1 x2 x3 x4 x5 f d al ha i hi' (by omega) (100 * e + 50) (fun k hk => ih k (i + 1) (by omega) hk) al[i].length k 0 (by omega) (by omega)
      refine ⟨v, e1, fun h' t ht => ?_⟩
      rw [List.drop_eq_getElem_cons hi'] at ht
      rcases List.mem_cons.1 ht with rfl | ht
      · exact ⟨by omega, by simpa using (e2 h').1⟩
      · exact (e2 h').2 t ht
end
/-- No more than the statements go through. -/
structure Small (f d : List Int) (al : List (List (List S80))) (p : List Int) : Prop where
  f : f.length ≤ 20
  d : d.length ≤ 1000
  a : al.length ≤ 10
  t : ∀ t ∈ al, Few t
  p : p.length ≤ 1000
theorem great_f (x0 x1 x2 x3 x4 x5 : Int) (f d : List Int) (al : List (List (List S80))) (p : List Int) (k : Nat) (hk : 2000000 < k) :
    ∃ b, quarrellaw20_great.f k x0 x1 x2 x3 x4 x5 f d al p = some b ∧ (b = false → Small f d al p) := by
  obtain ⟨k', e⟩ : ∃ m, k = m + 1 := ⟨k - 1, by omega⟩
  unfold quarrellaw20_great.f quarrellaw16_Great.f
  by_cases h1 : (p.length : Int) > 1000
  · exact ⟨true, by rw [if_pos h1], fun h => by cases h⟩
  rw [if_neg h1]
  by_cases h2 : (d.length : Int) > 1000
  · exact ⟨true, by rw [if_pos h2], fun h => by cases h⟩
  rw [if_neg h2]
  by_cases h3 : (f.length : Int) > 20
  · rw [if_pos h3, e, quarrellaw16_Great.j0, if_pos rfl, Option.bind_some]
    exact ⟨true, rfl, fun h => by cases h⟩
  rw [if_neg h3, if_neg (by simp), e, quarrellaw16_Great.j0]
  by_cases h4 : (al.length : Int) > 10
  · rw [if_pos (decide_eq_true h4), Option.bind_some]
    exact ⟨true, rfl, fun h => by cases h⟩
  rw [if_neg (by simp; omega)]
  obtain ⟨v, e1, e2⟩ := great_l0 0 0 0 0 0 0 f [] al (by omega) al.length k' 0 (by omega) (by omega)
  rw [show ((0 : Nat) : Int) = 0 from rfl] at e1
  rw [e1, Option.bind_some]
  refine ⟨decide (v > 0), rfl, fun h => ⟨by omega, by omega, by omega, ?_, by omega⟩⟩
  simpa using e2 (by have := of_decide_eq_false h; omega)
section
variable (x0 x1 x2 x3 x4 x5 : Int) (f d : List Int) (al : List (List (List S80))) (p : List Int)
end
end Go.Proofs.Ythfkgnkojhocbaa.S
end
section
namespace Go.Proofs.Ythfkgnkojhocbaa.S
open Go Go.RowKit Go.Proofs.YthfkgnkojhocbaaW.PrintWords
set_option linter.unusedVariables false
set_option linter.unusedSimpArgs false
theorem u8_rng {x : Int} (h : (Lit.int .u8 x).wf = true) : 0 ≤ x ∧ x ≤ 255 := by
  simp [Lit.wf, IntKind.min, IntKind.max, IntKind.signed, IntKind.bits] at h
  omega
theorem u8_isB {l : List Int} (h : ∀ x ∈ l, (Lit.int .u8 x).wf = true) : isB l := fun x hx => u8_rng (h x hx)
theorem isB_bytesB {l : List Int} (h : isB l) : bytesB l = true := by
  unfold bytesB
  rw [List.all_eq_true]
  exact fun x hx => decide_eq_true (h x hx)
theorem getS_f (l : List Int) (hb : isB l) (hm : l.length ≤ 1000000) (k : Nat) : script_Get.f k l = some (flatG (getF l)) := by
  unfold script_Get.f
  rw [if_pos ⟨hm, isB_bytesB hb⟩]
set_option maxRecDepth 100000 in
theorem alive_get : getF [1, 1, 0, 9, 5, 1, 2, 7, 0, 0] = (⟨10, ⟨1, 1, 9, 5, 1, 2⟩, [7], [], [[]], []⟩, -1, 0) := by kernel_rfl
theorem alive_f (k : Nat) (hk : 100 < k) : quarrellaw20_alive.f k = some true := by
  unfold quarrellaw20_alive.f
  rw [getS_f _ (by intro x hx; simp at hx; omega) (by simp) k, alive_get, Option.bind_some]
  have hF : flatG (⟨10, ⟨1, 1, 9, 5, 1, 2⟩, [7], [], [[]], []⟩, -1, 0) = (1, 1, 9, 5, 1, 2, [7], [], [[]], [], -1, 0) := rfl
  rw [hF]
  refine (if_pos rfl).trans ((if_pos rfl).trans ((if_pos rfl).trans ?_))
  rw [vals_f [7] (by simp) k (by simp; omega), Option.bind_some, if_pos rfl]
  refine (if_pos rfl).trans ?_
  show some (wrap64 (((0 : Nat) : Int) + ((0 : Nat) : Int)) == 0) = some true
  simp [wrap64]
theorem isB_app {a b : List Int} (h : isB a) (k : isB b) : isB (a ++ b) := fun x hx => by
  rcases List.mem_append.1 hx with hx | hx
  · exact h x hx
  · exact k x hx
theorem isB_mod (l : List Int) : isB (l.map (· % 256)) := fun x hx => by
  obtain ⟨y, _, rfl⟩ := List.mem_map.1 hx
  show 0 ≤ y % 256 ∧ y % 256 ≤ 255
  omega
theorem isB_one {x : Int} {l : List Int} (h : isB l) : isB (x % 256 :: l) := fun y hy => by
  rcases List.mem_cons.1 hy with rfl | hy
  · omega
  · exact h y hy
theorem isB_nil : isB [] := fun x hx => by cases hx
theorem isB_opB (o : S80) : isB (opB o) := isB_one (isB_one (isB_one isB_nil))
theorem isB_ops : ∀ os : List S80, isB (os.flatMap opB)
  | [] => isB_nil
  | o :: os => by rw [List.flatMap_cons]; exact isB_app (isB_opB o) (isB_ops os)
theorem isB_ts : ∀ t : List (List S80), isB (t.flatMap encT)
  | [] => isB_nil
  | o :: t => by rw [List.flatMap_cons]; exact isB_app (isB_one (isB_ops o)) (isB_ts t)
theorem isB_al : ∀ t : List (List (List S80)), isB (t.flatMap encA)
  | [] => isB_nil
  | o :: t => by rw [List.flatMap_cons]; exact isB_app (isB_one (isB_ts o)) (isB_al t)
theorem isB_put (c : S25) (f : List Int) {d : List Int} (hd : isB d) (a : List (List (List S80))) (p : List Int) : isB (putF c f d a p) :=
  isB_app (isB_one (isB_one (isB_one (isB_one (isB_one (isB_one (isB_one isB_nil))))))) (isB_app (isB_mod f) (isB_app (isB_al a) (isB_one (isB_app hd (isB_mod p)))))
theorem ops_len (os : List S80) (h : os.length ≤ 20) : (os.flatMap opB).length ≤ 60 := by rw [opsB_len]; omega
theorem encT_len : ∀ t : List (List S80), (∀ o ∈ t, o.length ≤ 20) → (t.flatMap encT).length ≤ 61 * t.length
  | [], _ => by simp
  | o :: t, h => by
    rw [List.flatMap_cons, List.length_append, List.length_cons]
    have := encT_len t (fun x hx => h x (by simp [hx]))
    have h1 := ops_len o (h o (by simp))
    have h2 : (encT o).length = 1 + (o.flatMap opB).length := by unfold encT; rw [List.length_cons]; omega
    omega
theorem encA_len : ∀ al : List (List (List S80)), (∀ t ∈ al, Few t) → (al.flatMap encA).length ≤ 1300 * al.length
  | [], _ => by simp
  | t :: al, h => by
    rw [List.flatMap_cons, List.length_append, List.length_cons]
    have := encA_len al (fun x hx => h x (by simp [hx]))
    have ht := h t (by simp)
    have h1 := encT_len t ht.2
    have h2 := ht.1
    have h3 : (encA t).length = 1 + (t.flatMap encT).length := by unfold encA; rw [List.length_cons]; omega
    omega
theorem put_len (c : S25) (f d : List Int) (a : List (List (List S80))) (p : List Int) (h : f.length ≤ 20) (h1 : d.length ≤ 3000) (h2 : a.length ≤ 10) (h3 : ∀ t ∈ a, Few t) (h4 : p.length ≤ 3000) :
    8 ≤ (putF c f d a p).length ∧ (putF c f d a p).length ≤ 100000 := by
  have := encA_len a h3
  unfold putF
  simp only [List.length_append, List.length_map, List.length_cons, head7, List.length_nil]
  omega
end Go.Proofs.Ythfkgnkojhocbaa.S
end
section
namespace Go.Proofs.Ythfkgnkojhocbaa.S
open Go.RowKit Go.Proofs.YthfkgnkojhocbaaW.PrintWords Go.Proofs.YthfkgnkojhocbaaW.PrintLast Go.Proofs.YthfkgnkojhocbaaW.PrintMore
attribute [local go_sem] max2_int min2_int max_two min_two max_three min_three max_four min_four
set_option linter.unusedVariables false
set_option linter.unusedSimpArgs false
mutual
def quarrelref20_Put.l0 : Nat → List Int → Int → Int → Int → Int → Int → Int → Int → List Int → List Int → List (List (List (S80))) → List Int → Option (List Int)
  | 0, _, _, _, _, _, _, _, _, _, _, _, _ => none
  | k + 1, x4, x5, x302000, x302001, x302002, x302003, x302004, x302005, x302006, x302007, x302008, x302009 => if x5 < (x302006.length : Int) then (if 0 ≤ x5 then ((quarrelref20_low.f (rd x302006 x5)).bind fun t307 => (if x4.length < 140737488355328 then (quarrelref20_Put.l0 k (x4 ++ [t307]) (wrap64 (x5 + 1)) x302000 x302001 x302002 x302003 x302004 x302005 x302006 x302007 x302008 x302009) else (none))) else (none)) else (quarrelref20_Put.l1 k x4 0 x302000 x302001 x302002 x302003 x302004 x302005 x302006 x302007 x302008 x302009)
def quarrelref20_Put.l1 : Nat → List Int → Int → Int → Int → Int → Int → Int → Int → List Int → List Int → List (List (List (S80))) → List Int → Option (List Int)
  | 0, _, _, _, _, _, _, _, _, _, _, _, _ => none
  | k + 1, x4, x6, x302000, x302001, x302002, x302003, x302004, x302005, x302006, x302007, x302008, x302009 => if x6 < (x302008.length : Int) then (if 0 ≤ x6 then (if x4.length < 140737488355328 then (quarrelref20_Put.l2 k (x4 ++ [(((rd_L7 x302008 x6).length : Int)) % 256]) x6 0 x302000 x302001 x302002 x302003 x302004 x302005 x302006 x302007 x302008 x302009) else (none)) else (none)) else (if x4.length < 140737488355328 then (quarrelref20_Put.l4 k (x4 ++ [((x302007.length : Int)) % 256]) 0 x302000 x302001 x302002 x302003 x302004 x302005 x302006 x302007 x302008 x302009) else (none))
def quarrelref20_Put.l2 : Nat → List Int → Int → Int → Int → Int → Int → Int → Int → Int → List Int → List Int → List (List (List (S80))) → List Int → Option (List Int)
  | 0, _, _, _, _, _, _, _, _, _, _, _, _, _ => none
  | k + 1, x4, x6, x7, x302000, x302001, x302002, x302003, x302004, x302005, x302006, x302007, x302008, x302009 => if 0 ≤ x6 then (if x6 < (x302008.length : Int) then (if x7 < ((rd_L7 x302008 x6).length : Int) then (if 0 ≤ x7 then (if x4.length < 140737488355328 then (quarrelref20_Put.l3 k (x4 ++ [(((rd_L6 (rd_L7 x302008 x6) x7).length : Int)) % 256]) x6 x7 (rd_L6 (rd_L7 x302008 x6) x7) 0 x302000 x302001 x302002 x302003 x302004 x302005 x302006 x302007 x302008 x302009) else (none)) else (none)) else (quarrelref20_Put.l1 k x4 (wrap64 (x6 + 1)) x302000 x302001 x302002 x302003 x302004 x302005 x302006 x302007 x302008 x302009)) else (none)) else (none)
def quarrelref20_Put.l3 : Nat → List Int → Int → Int → List (S80) → Int → Int → Int → Int → Int → Int → Int → List Int → List Int → List (List (List (S80))) → List Int → Option (List Int)
  | 0, _, _, _, _, _, _, _, _, _, _, _, _, _, _, _ => none
  | k + 1, x4, x6, x7, x8, x9, x302000, x302001, x302002, x302003, x302004, x302005, x302006, x302007, x302008, x302009 => if x9 < (x8.length : Int) then (if 0 ≤ x9 then ((quarrelref20_low.f ((rd_T80 x8 x9).f2)).bind fun t324 => ((some (([((rd_T80 x8 x9).f0) % 256, ((rd_T80 x8 x9).f1) % 256, t324] : List Int) : List Int)).bind fun y325 => (if x4.length + y325.length < 140737488355328 then (quarrelref20_Put.l3 k (x4 ++ y325) x6 x7 x8 (wrap64 (x9 + 1)) x302000 x302001 x302002 x302003 x302004 x302005 x302006 x302007 x302008 x302009) else (none)))) else (none)) else (quarrelref20_Put.l2 k x4 x6 (wrap64 (x7 + 1)) x302000 x302001 x302002 x302003 x302004 x302005 x302006 x302007 x302008 x302009)
def quarrelref20_Put.l4 : Nat → List Int → Int → Int → Int → Int → Int → Int → Int → List Int → List Int → List (List (List (S80))) → List Int → Option (List Int)
  | 0, _, _, _, _, _, _, _, _, _, _, _, _ => none
  | k + 1, x4, x10, x302000, x302001, x302002, x302003, x302004, x302005, x302006, x302007, x302008, x302009 => if x10 < (x302007.length : Int) then (if 0 ≤ x10 then (if x4.length < 140737488355328 then (quarrelref20_Put.l4 k (x4 ++ [rd x302007 x10]) (wrap64 (x10 + 1)) x302000 x302001 x302002 x302003 x302004 x302005 x302006 x302007 x302008 x302009) else (none)) else (none)) else (quarrelref20_Put.l5 k x4 0 x302000 x302001 x302002 x302003 x302004 x302005 x302006 x302007 x302008 x302009)
def quarrelref20_Put.l5 : Nat → List Int → Int → Int → Int → Int → Int → Int → Int → List Int → List Int → List (List (List (S80))) → List Int → Option (List Int)
  | 0, _, _, _, _, _, _, _, _, _, _, _, _ => none
  | k + 1, x4, x11, x302000, x302001, x302002, x302003, x302004, x302005, x302006, x302007, x302008, x302009 => if x11 < (x302009.length : Int) then (if 0 ≤ x11 then (if x4.length < 140737488355328 then (quarrelref20_Put.l5 k (x4 ++ [(rd x302009 x11) % 256]) (wrap64 (x11 + 1)) x302000 x302001 x302002 x302003 x302004 x302005 x302006 x302007 x302008 x302009) else (none)) else (none)) else (some x4)
end
def quarrelref20_Put.f (k : Nat) (a0_0 : Int) (a0_1 : Int) (a0_2 : Int) (a0_3 : Int) (a0_4 : Int) (a0_5 : Int) (l0_6 : List Int) (l0_7 : List Int) (l0_8 : List (List (List (S80)))) (l0_9 : List Int) : Option (List Int) := quarrelref20_Put.l0 k (([(a0_0) % 256, (a0_1) % 256, (wrap64 (Int.tdiv a0_2 256)) % 256, (Int.tmod a0_2 256) % 256, (a0_3) % 256, (a0_4) % 256, (a0_5) % 256] : List Int)) 0 a0_0 a0_1 a0_2 a0_3 a0_4 a0_5 l0_6 l0_7 l0_8 l0_9
theorem quarrelref20_Put.mono_l : ∀ k, (∀ y0 y1 y2 y3 y4 y5 y6 y7 y8 y9 y10 y11, LeO (quarrelref20_Put.l0 k y0 y1 y2 y3 y4 y5 y6 y7 y8 y9 y10 y11) (quarrelref20_Put.l0 (k + 1) y0 y1 y2 y3 y4 y5 y6 y7 y8 y9 y10 y11)) ∧ (∀ y0 y1 y2 y3 y4 y5 y6 y7 y8 y9 y10 y11, LeO (quarrelref20_Put.l1 k y0 y1 y2 y3 y4 y5 y6 y7 y8 y9 y10 y11) (quarrelref20_Put.l1 (k + 1) y0 y1 y2 y3 y4 y5 y6 y7 y8 y9 y10 y11)) ∧ (∀ y0 y1 y2 y3 y4 y5 y6 y7 y8 y9 y10 y11 y12, LeO (quarrelref20_Put.l2 k y0 y1 y2 y3 y4 y5 y6 y7 y8 y9 y10 y11 y12) (quarrelref20_Put.l2 (k + 1) y0 y1 y2 y3 y4 y5 y6 y7 y8 y9 y10 y11 y12)) ∧ (∀ y0 y1 y2 y3 y4 y5 y6 y7 y8 y9 y10 y11 y12 y13 y14, LeO (quarrelref20_Put.l3 k y0 y1 y2 y3 y4 y5 y6 y7 y8 y9 y10 y11 y12 y13 y14) (quarrelref20_Put.l3 (k + 1) y0 y1 y2 y3 y4 y5 y6 y7 y8 y9 y10 y11 y12 y13 y14)) ∧ (∀ y0 y1 y2 y3 y4 y5 y6 y7 y8 y9 y10 y11, LeO (quarrelref20_Put.l4 k y0 y1 y2 y3 y4 y5 y6 y7 y8 y9 y10 y11) (quarrelref20_Put.l4 (k + 1) y0 y1 y2 y3 y4 y5 y6 y7 y8 y9 y10 y11)) ∧ (∀ y0 y1 y2 y3 y4 y5 y6 y7 y8 y9 y10 y11, LeO (quarrelref20_Put.l5 k y0 y1 y2 y3 y4 y5 y6 y7 y8 y9 y10 y11) (quarrelref20_Put.l5 (k + 1) y0 y1 y2 y3 y4 y5 y6 y7 y8 y9 y10 y11))
  | 0 => ⟨fun _ _ _ _ _ _ _ _ _ _ _ _ r h => by simp [quarrelref20_Put.l0] at h, fun _ _ _ _ _ _ _ _ _ _ _ _ r h => by simp [quarrelref20_Put.l1] at h, fun _ _ _ _ _ _ _ _ _ _ _ _ _ r h => by simp [quarrelref20_Put.l2] at h, fun _ _ _ _ _ _ _ _ _ _ _ _ _ _ _ r h => by simp [quarrelref20_Put.l3] at h, fun _ _ _ _ _ _ _ _ _ _ _ _ r h => by simp [quarrelref20_Put.l4] at h, fun _ _ _ _ _ _ _ _ _ _ _ _ r h => by simp [quarrelref20_Put.l5] at h⟩
  | k + 1 => by
    obtain ⟨ih0, ih1, ih2, ih3, ih4, ih5⟩ := quarrelref20_Put.mono_l k
    refine ⟨?_, ?_, ?_, ?_, ?_, ?_⟩
    · intro y0 y1 y2 y3 y4 y5 y6 y7 y8 y9 y10 y11
      unfold quarrelref20_Put.l0
      repeat' first
      | (with_reducible exact ih0 _ _ _ _ _ _ _ _ _ _ _ _)
      | (with_reducible exact ih1 _ _ _ _ _ _ _ _ _ _ _ _)
      | (with_reducible exact ih2 _ _ _ _ _ _ _ _ _ _ _ _ _)
      | (with_reducible exact ih3 _ _ _ _ _ _ _ _ _ _ _ _ _ _ _)
      | (with_reducible exact ih4 _ _ _ _ _ _ _ _ _ _ _ _)
      | (with_reducible exact ih5 _ _ _ _ _ _ _ _ _ _ _ _)
      | (with_reducible exact LeO.refl _)
      | (with_reducible exact LeO.none _)
      | (with_reducible refine LeO.ite ?_ ?_)
      | (with_reducible refine LeO.bind ?_ (fun _ => ?_))
      | exact ih0 _ _ _ _ _ _ _ _ _ _ _ _
      | exact ih1 _ _ _ _ _ _ _ _ _ _ _ _
      | exact ih2 _ _ _ _ _ _ _ _ _ _ _ _ _
      | exact ih3 _ _ _ _ _ _ _ _ _ _ _ _ _ _ _
      | exact ih4 _ _ _ _ _ _ _ _ _ _ _ _
      | exact ih5 _ _ _ _ _ _ _ _ _ _ _ _
      | exact LeO.none _
      | refine LeO.ite ?_ ?_
      | refine LeO.bind ?_ (fun _ => ?_)
    · intro y0 y1 y2 y3 y4 y5 y6 y7 y8 y9 y10 y11
      unfold quarrelref20_Put.l1
      repeat' first
      | (with_reducible exact ih0 _ _ _ _ _ _ _ _ _ _ _ _)
      | (with_reducible exact ih1 _ _ _ _ _ _ _ _ _ _ _ _)
      | (with_reducible exact ih2 _ _ _ _ _ _ _ _ _ _ _ _ _)
      | (with_reducible exact ih3 _ _ _ _ _ _ _ _ _ _ _ _ _ _ _)
      | (with_reducible exact ih4 _ _ _ _ _ _ _ _ _ _ _ _)
      | (with_reducible exact ih5 _ _ _ _ _ _ _ _ _ _ _ _)
      | (with_reducible exact LeO.refl _)
      | (with_reducible exact LeO.none _)
      | (with_reducible refine LeO.ite ?_ ?_)
      | (with_reducible refine LeO.bind ?_ (fun _ => ?_))
      | exact ih0 _ _ _ _ _ _ _ _ _ _ _ _
      | exact ih1 _ _ _ _ _ _ _ _ _ _ _ _
      | exact ih2 _ _ _ _ _ _ _ _ _ _ _ _ _
      | exact ih3 _ _ _ _ _ _ _ _ _ _ _ _ _ _ _
      | exact ih4 _ _ _ _ _ _ _ _ _ _ _ _
      | exact ih5 _ _ _ _ _ _ _ _ _ _ _ _
      | exact LeO.none _
      | refine LeO.ite ?_ ?_
      | refine LeO.bind ?_ (fun _ => ?_)
    · intro y0 y1 y2 y3 y4 y5 y6 y7 y8 y9 y10 y11 y12
      unfold quarrelref20_Put.l2
      repeat' first
      | (with_reducible exact ih0 _ _ _ _ _ _ _ _ _ _ _ _)
      | (with_reducible exact ih1 _ _ _ _ _ _ _ _ _ _ _ _)
      | (with_reducible exact ih2 _ _ _ _ _ _ _ _ _ _ _ _ _)
      | (with_reducible exact ih3 _ _ _ _ _ _ _ _ _ _ _ _ _ _ _)
      | (with_reducible exact ih4 _ _ _ _ _ _ _ _ _ _ _ _)
      | (with_reducible exact ih5 _ _ _ _ _ _ _ _ _ _ _ _)
      | (with_reducible exact LeO.refl _)
      | (with_reducible exact LeO.none _)
      | (with_reducible refine LeO.ite ?_ ?_)
      | (with_reducible refine LeO.bind ?_ (fun _ => ?_))
      | exact ih0 _ _ _ _ _ _ _ _ _ _ _ _
      | exact ih1 _ _ _ _ _ _ _ _ _ _ _ _
      | exact ih2 _ _ _ _ _ _ _ _ _ _ _ _ _
      | exact ih3 _ _ _ _ _ _ _ _ _ _ _ _ _ _ _
      | exact ih4 _ _ _ _ _ _ _ _ _ _ _ _
      | exact ih5 _ _ _ _ _ _ _ _ _ _ _ _
      | exact LeO.none _
      | refine LeO.ite ?_ ?_
      | refine LeO.bind ?_ (fun _ => ?_)
    · intro y0 y1 y2 y3 y4 y5 y6 y7 y8 y9 y10 y11 y12 y13 y14
      unfold quarrelref20_Put.l3
      repeat' first
      | (with_reducible exact ih0 _ _ _ _ _ _ _ _ _ _ _ _)
      | (with_reducible exact ih1 _ _ _ _ _ _ _ _ _ _ _ _)
      | (with_reducible exact ih2 _ _ _ _ _ _ _ _ _ _ _ _ _)
      | (with_reducible exact ih3 _ _ _ _ _ _ _ _ _ _ _ _ _ _ _)
      | (with_reducible exact ih4 _ _ _ _ _ _ _ _ _ _ _ _)
      | (with_reducible exact ih5 _ _ _ _ _ _ _ _ _ _ _ _)
      | (with_reducible exact LeO.refl _)
      | (with_reducible exact LeO.none _)
      | (with_reducible refine LeO.ite ?_ ?_)
      | (with_reducible refine LeO.bind ?_ (fun _ => ?_))
      | exact ih0 _ _ _ _ _ _ _ _ _ _ _ _
      | exact ih1 _ _ _ _ _ _ _ _ _ _ _ _
      | exact ih2 _ _ _ _ _ _ _ _ _ _ _ _ _
      | exact ih3 _ _ _ _ _ _ _ _ _ _ _ _ _ _ _
      | exact ih4 _ _ _ _ _ _ _ _ _ _ _ _
      | exact ih5 _ _ _ _ _ _ _ _ _ _ _ _
      | exact LeO.none _
      | refine LeO.ite ?_ ?_
      | refine LeO.bind ?_ (fun _ => ?_)
    · intro y0 y1 y2 y3 y4 y5 y6 y7 y8 y9 y10 y11
      unfold quarrelref20_Put.l4
      repeat' first
      | (with_reducible exact ih0 _ _ _ _ _ _ _ _ _ _ _ _)
      | (with_reducible exact ih1 _ _ _ _ _ _ _ _ _ _ _ _)
      | (with_reducible exact ih2 _ _ _ _ _ _ _ _ _ _ _ _ _)
      | (with_reducible exact ih3 _ _ _ _ _ _ _ _ _ _ _ _ _ _ _)
      | (with_reducible exact ih4 _ _ _ _ _ _ _ _ _ _ _ _)
      | (with_reducible exact ih5 _ _ _ _ _ _ _ _ _ _ _ _)
      | (with_reducible exact LeO.refl _)
      | (with_reducible exact LeO.none _)
      | (with_reducible refine LeO.ite ?_ ?_)
      | (with_reducible refine LeO.bind ?_ (fun _ => ?_))
      | exact ih0 _ _ _ _ _ _ _ _ _ _ _ _
      | exact ih1 _ _ _ _ _ _ _ _ _ _ _ _
      | exact ih2 _ _ _ _ _ _ _ _ _ _ _ _ _
      | exact ih3 _ _ _ _ _ _ _ _ _ _ _ _ _ _ _
      | exact ih4 _ _ _ _ _ _ _ _ _ _ _ _
      | exact ih5 _ _ _ _ _ _ _ _ _ _ _ _
      | exact LeO.none _
      | refine LeO.ite ?_ ?_
      | refine LeO.bind ?_ (fun _ => ?_)
    · intro y0 y1 y2 y3 y4 y5 y6 y7 y8 y9 y10 y11
      unfold quarrelref20_Put.l5
      repeat' first
      | (with_reducible exact ih0 _ _ _ _ _ _ _ _ _ _ _ _)
      | (with_reducible exact ih1 _ _ _ _ _ _ _ _ _ _ _ _)
      | (with_reducible exact ih2 _ _ _ _ _ _ _ _ _ _ _ _ _)
      | (with_reducible exact ih3 _ _ _ _ _ _ _ _ _ _ _ _ _ _ _)
      | (with_reducible exact ih4 _ _ _ _ _ _ _ _ _ _ _ _)
      | (with_reducible exact ih5 _ _ _ _ _ _ _ _ _ _ _ _)
      | (with_reducible exact LeO.refl _)
      | (with_reducible exact LeO.none _)
      | (with_reducible refine LeO.ite ?_ ?_)
      | (with_reducible refine LeO.bind ?_ (fun _ => ?_))
      | exact ih0 _ _ _ _ _ _ _ _ _ _ _ _
      | exact ih1 _ _ _ _ _ _ _ _ _ _ _ _
      | exact ih2 _ _ _ _ _ _ _ _ _ _ _ _ _
      | exact ih3 _ _ _ _ _ _ _ _ _ _ _ _ _ _ _
      | exact ih4 _ _ _ _ _ _ _ _ _ _ _ _
      | exact ih5 _ _ _ _ _ _ _ _ _ _ _ _
      | exact LeO.none _
      | refine LeO.ite ?_ ?_
      | refine LeO.bind ?_ (fun _ => ?_)
theorem quarrelref20_Put.mono : ∀ a0 a1 a2 a3 a4 a5 a6 a7 a8 a9 k, LeO (quarrelref20_Put.f k a0 a1 a2 a3 a4 a5 a6 a7 a8 a9) (quarrelref20_Put.f (k + 1) a0 a1 a2 a3 a4 a5 a6 a7 a8 a9) := by
  intro a0 a1 a2 a3 a4 a5 a6 a7 a8 a9 k
  obtain ⟨ih0, ih1, ih2, ih3, ih4, ih5⟩ := quarrelref20_Put.mono_l k
  unfold quarrelref20_Put.f
  repeat' first
      | (with_reducible exact ih0 _ _ _ _ _ _ _ _ _ _ _ _)
      | (with_reducible exact ih1 _ _ _ _ _ _ _ _ _ _ _ _)
      | (with_reducible exact ih2 _ _ _ _ _ _ _ _ _ _ _ _ _)
      | (with_reducible exact ih3 _ _ _ _ _ _ _ _ _ _ _ _ _ _ _)
      | (with_reducible exact ih4 _ _ _ _ _ _ _ _ _ _ _ _)
      | (with_reducible exact ih5 _ _ _ _ _ _ _ _ _ _ _ _)
      | (with_reducible exact LeO.refl _)
      | (with_reducible exact LeO.none _)
      | (with_reducible refine LeO.ite ?_ ?_)
      | (with_reducible refine LeO.bind ?_ (fun _ => ?_))
      | exact ih0 _ _ _ _ _ _ _ _ _ _ _ _
      | exact ih1 _ _ _ _ _ _ _ _ _ _ _ _
      | exact ih2 _ _ _ _ _ _ _ _ _ _ _ _ _
      | exact ih3 _ _ _ _ _ _ _ _ _ _ _ _ _ _ _
      | exact ih4 _ _ _ _ _ _ _ _ _ _ _ _
      | exact ih5 _ _ _ _ _ _ _ _ _ _ _ _
      | exact LeO.none _
      | refine LeO.ite ?_ ?_
      | refine LeO.bind ?_ (fun _ => ?_)
end Go.Proofs.Ythfkgnkojhocbaa.S
end
section
namespace Go.Proofs.Ythfkgnkojhocbaa.S
open Go Go.RowKit Go.Proofs.YthfkgnkojhocbaaW.PrintWords
set_option linter.unusedVariables false
set_option linter.unusedSimpArgs false
theorem langPut_l (os : List S80) (hl : os.length ≤ 20) : ∀ (d k i : Nat) (acc : List Int), i + d = os.length → d < k → acc.length + 3 * d ≤ 1000000 →
    lang_Put.l0 k acc os (os.length : Int) (i : Int) = some (acc ++ (os.drop i).flatMap opB) := by
  intro d
  induction d with
  | zero =>
    intro k i acc hi hk ha
    obtain ⟨k, rfl⟩ : ∃ m, k = m + 1 := ⟨k - 1, by omega⟩
    rw [lang_Put.l0, if_neg (show ¬ ((i : Int) < (os.length : Int)) by omega), List.drop_eq_nil_of_le (by omega)]
    simp
  | succ d ih =>
    intro k i acc hi hk ha
    obtain ⟨k, rfl⟩ : ∃ m, k = m + 1 := ⟨k - 1, by omega⟩
    have hi' : i < os.length := by omega
    rw [lang_Put.l0, if_pos (show (i : Int) < (os.length : Int) by omega), if_pos (show (0 : Int) ≤ (i : Int) by omega), if_pos (show (i : Int) < (os.length : Int) by omega), rd80_at os i hi', Option.bind_some]
    have e3 : acc.length + [os[i].f0 % 256, os[i].f1 % 256, os[i].f2 % 256].length < 140737488355328 := by simp only [List.length_cons, List.length_nil]; omega
    simp only [e3, ↓reduceIte]
    rw [wrap_succ (by omega), ih k (i + 1) _ (by omega) (by omega) (by simp only [List.length_append, List.length_cons, List.length_nil]; omega), List.drop_eq_getElem_cons hi', List.flatMap_cons, List.append_assoc]
    rfl
theorem langPut_f (os : List S80) (hl : os.length ≤ 20) (k : Nat) (hk : 30 < k) : lang_Put.f k os = some (os.flatMap opB) := by
  unfold lang_Put.f
  have h := langPut_l os hl os.length k 0 [] (by omega) (by omega) (by simp; omega)
  rw [show ((0 : Nat) : Int) = 0 from rfl] at h
  rw [h]
  simp
theorem opsLen (os : List S80) (h : os.length ≤ 20) : (os.flatMap opB).length ≤ 60 := by rw [opsB_len]; omega
section
variable (x0 x1 x2 x3 x4 x5 : Int) (f d : List Int) (al : List (List (List S80))) (p : List Int)
theorem put_l3 (hp : p.length ≤ 3000) : ∀ (e k i : Nat) (acc : List Int), i + e = p.length → e < k → acc.length + e ≤ 1000000 →
    script_Put.l3 k acc p (p.length : Int) (i : Int) = some (acc ++ (p.drop i).map (· % 256), 0) := by
  intro e
  induction e with
  | zero =>
    intro k i acc hi hk ha
    obtain ⟨k, rfl⟩ : ∃ m, k = m + 1 := ⟨k - 1, by omega⟩
    rw [script_Put.l3, if_neg (show ¬ ((i : Int) < (p.length : Int)) by omega), List.drop_eq_nil_of_le (by omega)]
    simp
  | succ e ih =>
    intro k i acc hi hk ha
    obtain ⟨k, rfl⟩ : ∃ m, k = m + 1 := ⟨k - 1, by omega⟩
    have hi' : i < p.length := by omega
    have hr : rd p (i : Int) = p[i] := by rw [rd_at]; simp [hi']
    have hb : acc.length < 140737488355328 := by omega
    rw [script_Put.l3, if_pos (show (i : Int) < (p.length : Int) by omega), if_pos (show (0 : Int) ≤ (i : Int) by omega), if_pos (show (i : Int) < (p.length : Int) by omega), hr]
    simp only [hb, ↓reduceIte]
    rw [wrap_succ (by omega), ih k (i + 1) _ (by omega) (by omega) (by simp only [List.length_append, List.length_cons, List.length_nil]; omega), List.drop_eq_getElem_cons hi', List.map_cons, List.append_assoc]
    rfl
theorem put_l2 (i : Nat) (t : List (List S80)) (hF : Few t) (B : Nat) (hB : 40 ≤ B) (R : List Int) (N : Nat)
    (H : ∀ k acc, B < k → acc.length ≤ N → script_Put.l1 k acc al (al.length : Int) ((i + 1 : Nat) : Int) x0 x1 x2 x3 x4 x5 f d al p = some (acc ++ R, 0)) (hi : i < 1000) (hN : N ≤ 900000) :
    ∀ (e k j : Nat) (acc : List Int), j + e = t.length → e + 1 + B < k → acc.length + 61 * e ≤ N →
    script_Put.l2 k acc al (al.length : Int) (i : Int) t (t.length : Int) (j : Int) x0 x1 x2 x3 x4 x5 f d al p = some (acc ++ ((t.drop j).flatMap encT ++ R), 0) := by
  have h20 := hF.1
  intro e
  induction e with
  | zero =>
    intro k j acc hj hk ha
    obtain ⟨k, rfl⟩ : ∃ m, k = m + 1 := ⟨k - 1, by omega⟩
    rw [script_Put.l2, if_neg (show ¬ ((j : Int) < (t.length : Int)) by omega), List.drop_eq_nil_of_le (by omega), wrap_succ (by omega), H k acc (by omega) (by omega)]
    simp
  | succ e ih =>
    intro k j acc hj hk ha
    obtain ⟨k, rfl⟩ : ∃ m, k = m + 1 := ⟨k - 1, by omega⟩
    have hj' : j < t.length := by omega
    have hO := hF.2 t[j] (List.getElem_mem hj')
    have hoL := opsLen t[j] hO
    have hb : acc.length < 140737488355328 := by omega
    have hb2 : (acc ++ [(t[j].length : Int) % 256]).length + (t[j].flatMap opB).length < 140737488355328 := by simp only [List.length_append, List.length_cons, List.length_nil]; omega
    rw [script_Put.l2, if_pos (show (j : Int) < (t.length : Int) by omega), if_pos (show (0 : Int) ≤ (j : Int) by omega), if_pos (show (j : Int) < (t.length : Int) by omega), rd6_at t j hj']
    simp only [hb, ↓reduceIte]
    rw [Option.bind_some, langPut_f t[j] hO k (by omega), Option.bind_some]
    simp only [hb2, ↓reduceIte]
    rw [wrap_succ (by omega), ih k (j + 1) _ (by omega) (by omega) (by simp only [List.length_append, List.length_cons, List.length_nil]; omega), List.drop_eq_getElem_cons hj', List.flatMap_cons]
    congr 2
    unfold encT
    simp
set_option maxRecDepth 100000 in
theorem put_l1 (hp : p.length ≤ 3000) (hd : d.length ≤ 3000) (ha : al.length ≤ 10) (hf : ∀ t ∈ al, Few t) : ∀ (e k i : Nat) (acc : List Int), i + e = al.length → 100 * e + 4000 < k → acc.length + 1300 * e ≤ 20000 →
    script_Put.l1 k acc al (al.length : Int) (i : Int) x0 x1 x2 x3 x4 x5 f d al p = some (acc ++ ((al.drop i).flatMap encA ++ ((d.length : Int) % 256 :: (d ++ p.map (· % 256)))), 0) := by
  intro e
  induction e with
  | zero =>
    intro k i acc hi hk hL
    obtain ⟨k, rfl⟩ : ∃ m, k = m + 1 := ⟨k - 1, by omega⟩
    have hb : acc.length < 140737488355328 := by omega
    have hb2 : (acc ++ [(d.length : Int) % 256]).length + d.length < 140737488355328 := by simp only [List.length_append, List.length_cons, List.length_nil]; omega
    rw [script_Put.l1, if_neg (show ¬ ((i : Int) < (al.length : Int)) by omega), List.drop_eq_nil_of_le (by omega)]
    simp only [hb, ↓reduceIte]
    rw [Option.bind_some]
    simp only [hb2, ↓reduceIte]
    have := put_l3 p hp p.length k 0 (acc ++ [(d.length : Int) % 256] ++ d) (by omega) (by omega) (by simp only [List.length_append, List.length_cons, List.length_nil]; omega)
    rw [show ((0 : Nat) : Int) = 0 from rfl] at this
    rw [this]
    simp
  | succ e ih =>
    intro k i acc hi hk hL
    obtain ⟨k, rfl⟩ : ∃ m, k = m + 1 := ⟨k - 1, by omega⟩
    have hi' : i < al.length := by omega
    have hF := hf al[i] (List.getElem_mem hi')
    have h20 := hF.1
    have hb : acc.length < 140737488355328 := by omega
    rw [script_Put.l1, if_pos (show (i : Int) < (al.length : Int) by omega), if_pos (show (0 : Int) ≤ (i : Int) by omega), if_pos (show (i : Int) < (al.length : Int) by omega), rd7_at al i hi']
    simp only [hb, ↓reduceIte]
    have := put_l2 x0 x1 x2 x3 x4 x5 f d al p i al[i] hF (100 * e + 4000) (by omega) ((al.drop (i + 1)).flatMap encA ++ ((d.length : Int) % 256 :: (d ++ p.map (· % 256)))) (20000 - 1300 * e)
      (fun k acc hk hN => ih k (i + 1) acc (by omega) hk (by omega)) (by omega) (by omega) al[i].length k 0 (acc ++ [(al[i].length : Int) % 256]) (by omega) (by omega) (by simp only [List.length_append, List.length_cons, List.length_nil]; omega)
    rw [show ((0 : Nat) : Int) = 0 from rfl, List.drop_zero] at this
    rw [this, List.drop_eq_getElem_cons hi', List.flatMap_cons]
    congr 2
    unfold encA
    simp
theorem put_l0 (hl : f.length ≤ 20) (hp : p.length ≤ 3000) (hd : d.length ≤ 3000) (ha : al.length ≤ 10) (hf : ∀ t ∈ al, Few t) : ∀ (e k i : Nat) (acc : List Int), i + e = f.length → e + 6000 < k → acc.length + e ≤ 1000 →
    script_Put.l0 k acc f (f.length : Int) (i : Int) x0 x1 x2 x3 x4 x5 f d al p = some (acc ++ ((f.drop i).map (· % 256) ++ (al.flatMap encA ++ ((d.length : Int) % 256 :: (d ++ p.map (· % 256))))), 0) := by
  intro e
  induction e with
  | zero =>
    intro k i acc hi hk hL
    obtain ⟨k, rfl⟩ : ∃ m, k = m + 1 := ⟨k - 1, by omega⟩
    have := put_l1 x0 x1 x2 x3 x4 x5 f d al p hp hd ha hf al.length k 0 acc (by omega) (by omega) (by omega)
    rw [show ((0 : Nat) : Int) = 0 from rfl, List.drop_zero] at this
    rw [script_Put.l0, if_neg (show ¬ ((i : Int) < (f.length : Int)) by omega), List.drop_eq_nil_of_le (by omega), this]
    simp
  | succ e ih =>
    intro k i acc hi hk hL
    obtain ⟨k, rfl⟩ : ∃ m, k = m + 1 := ⟨k - 1, by omega⟩
    have hi' : i < f.length := by omega
    have hr : rd f (i : Int) = f[i] := by rw [rd_at]; simp [hi']
    have hb : acc.length < 140737488355328 := by omega
    rw [script_Put.l0, if_pos (show (i : Int) < (f.length : Int) by omega), if_pos (show (0 : Int) ≤ (i : Int) by omega), if_pos (show (i : Int) < (f.length : Int) by omega), hr]
    simp only [hb, ↓reduceIte]
    rw [wrap_succ (by omega), ih k (i + 1) _ (by omega) (by omega) (by simp only [List.length_append, List.length_cons, List.length_nil]; omega), List.drop_eq_getElem_cons hi', List.map_cons]
    simp
end
/-- What few enough holds besides: scripts that were got. -/
structure Fit (f d : List Int) (al : List (List (List S80))) (p : List Int) : Prop where
  f : f.length ≤ 20
  d : d.length ≤ 3000
  a : al.length ≤ 10
  t : ∀ t ∈ al, Few t
  p : p.length ≤ 3000
theorem Small.fit {f d : List Int} {al : List (List (List S80))} {p : List Int} (h : Small f d al p) : Fit f d al p := ⟨h.f, by have := h.d; omega, h.a, h.t, by have := h.p; omega⟩
/-- script.Put. -/
theorem put_f (c : S25) (f d : List Int) (al : List (List (List S80))) (p : List Int) (hs : Fit f d al p) (k : Nat) (hk : 2000000 < k) :
    script_Put.f k c.f0 c.f1 c.f2 c.f3 c.f4 c.f5 f d al p = some (if okS c f d al p = true then (putF c f d al p, 0) else ([], 1)) := by
  have hlf := hs.f
  unfold script_Put.f script_Ok.f
  rw [Option.bind_some]
  by_cases h : okS c f d al p = true
  · rw [if_pos h, if_pos h]
    have := put_l0 c.f0 c.f1 c.f2 c.f3 c.f4 c.f5 f d al p hs.f hs.p hs.d hs.a hs.t f.length k 0 (head7 c) (by omega) (by omega) (by simp [head7]; omega)
    rw [show ((0 : Nat) : Int) = 0 from rfl, List.drop_zero] at this
    exact this
  · rw [if_neg h, if_neg h]
section
variable (x0 x1 x2 x3 x4 x5 : Int) (f d : List Int) (al : List (List (List S80))) (p : List Int)
end
end Go.Proofs.Ythfkgnkojhocbaa.S
end
section
namespace Go.Proofs.Ythfkgnkojhocbaa.Opens
open Go.RowKit Go.Proofs.YthfkgnkojhocbaaW.PrintWords
/-- Whatever reads as a datum of the type t is a value of the kind d of which Q holds. -/
def Opens {α : Type} (P : Program) (t : TypeId) (d : Kd α) (Q : α → Prop) : Prop :=
  ∀ (H : Type) (enc : TypeId × Value → H) (w : World) (base : Nat) (spare : Nat → Bool) (held : Bool) (fuel : Nat) (cs : List Value) (x : DataW H × List MemPlace),
    DataW.trod enc P w base spare held fuel t cs = some x → ∃ a, d.K w a cs ∧ Q a
theorem Opens.imp {α : Type} {P : Program} {t : TypeId} {d : Kd α} {Q Q' : α → Prop} (h : Opens P t d Q) (hq : ∀ a, Q a → Q' a) : Opens P t d Q' := by
  intro H enc w base spare held fuel cs x hx
  obtain ⟨a, hk, ha⟩ := h H enc w base spare held fuel cs x hx
  exact ⟨a, hk, hq a ha⟩
theorem Opens.int {P : Program} {t : TypeId} {k : IntKind} (ht : P.underlying t = some (.int k)) : Opens P t (Kd.int k) (fun a => (Lit.int k a).wf = true) := by
  intro H enc w base spare held fuel cs x hx
  obtain ⟨n, rfl, _, hw⟩ := DataW.trod_int ht hx
  exact ⟨n, rfl, hw⟩
theorem Opens.bool {P : Program} {t : TypeId} (ht : P.underlying t = some .bool) : Opens P t Kd.bool (fun _ => True) := by
  intro H enc w base spare held fuel cs x hx
  obtain ⟨n, rfl, _⟩ := DataW.trod_bool ht hx
  exact ⟨n, rfl, trivial⟩
theorem Opens.iso {α β : Type} {P : Program} {t : TypeId} {d : Kd α} {Q : α → Prop} (h : Opens P t d Q) (f : β → α) (g : α → β) (hfg : ∀ a, f (g a) = a) : Opens P t (Kd.iso d f) (fun b => Q (f b)) := by
  intro H enc w base spare held fuel cs x hx
  obtain ⟨a, hk, hq⟩ := h H enc w base spare held fuel cs x hx
  exact ⟨g a, by show d.K w (f (g a)) cs; rw [hfg]; exact hk, by show Q (f (g a)); rw [hfg]; exact hq⟩
theorem list_of {α : Type} {p : Nat → α → Prop} : ∀ n : Nat, (∀ i, i < n → ∃ a, p i a) → ∃ l : List α, l.length = n ∧ ∀ i (hi : i < l.length), p i l[i]
  | 0, _ => ⟨[], rfl, fun i hi => absurd hi (Nat.not_lt_zero i)⟩
  | n + 1, h => by
    obtain ⟨l, hl, hp⟩ := list_of n (fun i hi => h i (by omega))
    obtain ⟨a, ha⟩ := h n (by omega)
    refine ⟨l ++ [a], by simp [hl], fun i hi => ?_⟩
    rcases Nat.lt_or_ge i l.length with hlt | hge
    · rw [List.getElem_append_left hlt]; exact hp i hlt
    · have : i = n := by simp at hi; omega
      subst this
      rw [List.getElem_append_right (by omega)]
      simpa [hl] using ha
theorem add_add' (a : Addr) (i j : Nat) : (a.add i).add j = a.add (i + j) := by
  unfold Addr.add
  by_cases hi : i = 0 <;> by_cases hj : j = 0 <;> simp [hi, hj, Nat.add_assoc]
theorem Opens.slice {α : Type} {P : Program} {t e : TypeId} {d : Kd α} {Q : α → Prop} (ht : P.underlying t = some (.slice e)) (hs : P.cellsOf e = d.sz) (hd : Opens P e d Q) :
    Opens P t (Kd.slice e d) (fun l => ∀ a ∈ l, Q a) := by
  intro H enc w base spare held fuel cs x hx
  rcases Go.Deep.open_slice ht hx with ⟨rfl, _⟩ | ⟨a, len, cap, m, n, D, Pl, rfl, _, hl, hm, hmm, _, hi⟩
  · exact ⟨[], ⟨none, 0, rfl, by simp, rfl, by simp, fun h => absurd h (Nat.lt_irrefl 0)⟩, by simp⟩
  · have hlm : len ≤ m := by rw [hmm]; split <;> omega
    obtain ⟨l, hll, hp⟩ := list_of (p := fun i (v : α) => Q v ∧ ∃ c, c.length = d.sz ∧ d.K w v c ∧ ∀ j u, c[j]? = some u → w.cell? (a.add (i * d.sz + j)) = some u) len (fun i hil => by
      obtain ⟨cs', hc, ht'⟩ := hi i (by omega)
      rw [hs] at hc
      obtain ⟨_, hcl, hat⟩ := World.cells?_some hc
      obtain ⟨v, hk, hq⟩ := hd H enc w base spare held n cs' _ ht'
      refine ⟨v, hq, cs', hcl, hk, fun j u hu => ?_⟩
      have hjl : j < d.sz := by rw [← hcl]; exact (List.getElem?_eq_some_iff.1 hu).1
      rw [← add_add', hat j hjl, hu])
    refine ⟨l, ⟨some a, cap, by rw [hll], by omega, rfl, ?_, fun _ => ⟨a, rfl, fun j p hj => ?_⟩⟩, fun v hv => ?_⟩
    · simp only [maxLen] at hm; omega
    · obtain ⟨hjl, rfl⟩ := List.getElem?_eq_some_iff.1 hj
      exact (hp j hjl).2
    · obtain ⟨i, hil, rfl⟩ := List.getElem_of_mem hv
      exact (hp i hil).1
/-- The fields of a struct from place j on: their cells begin at off. -/
def OpensAt {α : Type} (P : Program) (fs : Array Field) (tot _j off : Nat) (d : Kd α) (Q : α → Prop) : Prop :=
  ∀ (H : Type) (enc : TypeId × Value → H) (w : World) (base : Nat) (spare : Nat → Bool) (held : Bool) (n : Nat) (cs : List Value) (xs : List (DataW H × List MemPlace)), cs.length = tot → xs.length = fs.size →
    (∀ (i : Nat) (f : Field), fs[i]? = some f → DataW.trod enc P w base spare held n f.type ((cs.drop f.offset).take (P.cellsOf f.type)) = xs[i]?) → ∃ a, d.K w a (cs.drop off) ∧ Q a
theorem OpensAt.last {α : Type} {P : Program} {fs : Array Field} {tot j off : Nat} {d : Kd α} {Q : α → Prop} (f : Field) (hf : fs[j]? = some f) (ho : f.offset = off) (hc : off + P.cellsOf f.type = tot)
    (h : Opens P f.type d Q) : OpensAt P fs tot j off d Q := by
  intro H enc w base spare held n cs xs hl hx hg
  have hj : j < xs.length := by rw [hx]; exact (Array.getElem?_eq_some_iff.1 hf).1
  obtain ⟨a, hk, hq⟩ := h H enc w base spare held n _ _ ((hg j f hf).trans (List.getElem?_eq_getElem hj))
  rw [ho, List.take_of_length_le (by rw [List.length_drop]; omega)] at hk
  exact ⟨a, hk, hq⟩
theorem OpensAt.cons {α β : Type} {P : Program} {fs : Array Field} {tot j off off' : Nat} {d : Kd α} {d' : Kd β} {Q : α → Prop} {Q' : β → Prop} (f : Field) (hf : fs[j]? = some f) (ho : f.offset = off) (hc : off + P.cellsOf f.type = off')
    (h : Opens P f.type d Q) (h' : OpensAt P fs tot (j + 1) off' d' Q') : OpensAt P fs tot j off (Kd.pair d d') (fun p => Q p.1 ∧ Q' p.2) := by
  intro H enc w base spare held n cs xs hl hx hg
  have hj : j < xs.length := by rw [hx]; exact (Array.getElem?_eq_some_iff.1 hf).1
  obtain ⟨a, hk, hq⟩ := h H enc w base spare held n _ _ ((hg j f hf).trans (List.getElem?_eq_getElem hj))
  obtain ⟨b, hk', hq'⟩ := h' H enc w base spare held n cs xs hl hx hg
  rw [ho] at hk
  refine ⟨(a, b), ⟨_, _, ?_, hk, hk'⟩, hq, hq'⟩
  rw [← hc, ← List.drop_drop, List.take_append_drop]
theorem Opens.struct {α : Type} {P : Program} {t : TypeId} {fs : Array Field} {tot : Nat} {d : Kd α} {Q : α → Prop} (ht : P.underlying t = some (.struct fs)) (hc : P.cellsOf t = tot) (h : OpensAt P fs tot 0 0 d Q) : Opens P t d Q := by
  intro H enc w base spare held fuel cs x hx
  obtain ⟨xs, n, _, _, hl, hxl, hg⟩ := DataW.trod_struct ht hx
  obtain ⟨a, hk, hq⟩ := h H enc w base spare held n cs xs (hl.trans hc) hxl hg
  exact ⟨a, by simpa using hk, hq⟩
/-- An argument, as a row has it. -/
theorem Opens.arg {α : Type} {P : Program} {t : TypeId} {d : Kd α} {Q : α → Prop} (h : Opens P t d Q) {H : Type} {enc : TypeId × Value → H} {w : World} {base : Nat} {spare : Nat → Bool} {held : Bool} {v : Value} {x : DataW H} {p : List MemPlace}
    (hx : DataW.Trod enc P w base spare held t v x p) : ∃ a, d.K w a v.cells.toList ∧ Q a := by
  obtain ⟨fuel, hf⟩ := hx
  exact h H enc w base spare held fuel _ _ hf
end Go.Proofs.Ythfkgnkojhocbaa.Opens
end
section
namespace Go.Proofs.Ythfkgnkojhocbaa.S
open Go.RowKit Go.Proofs.YthfkgnkojhocbaaW.PrintWords Go.Proofs.Ythfkgnkojhocbaa.Opens
def WF25 (x : S25) : Prop := (Lit.int .i64 x.f0).wf = true ∧ (Lit.int .i64 x.f1).wf = true ∧ (Lit.int .i64 x.f2).wf = true ∧ (Lit.int .i64 x.f3).wf = true ∧ (Lit.int .i64 x.f4).wf = true ∧ (Lit.int .i64 x.f5).wf = true
theorem open25 : Opens Try.prog 25 k25 WF25 := (Opens.iso (Opens.struct (tot := 6) Try.underlying25 (by kernel_rfl) (OpensAt.cons (off' := 1) _ rfl rfl (by kernel_rfl) (Opens.int (k := .i64) Try.underlying3) (OpensAt.cons (off' := 2) _ rfl rfl (by kernel_rfl) (Opens.int (k := .i64) Try.underlying3) (OpensAt.cons (off' := 3) _ rfl rfl (by kernel_rfl) (Opens.int (k := .i64) Try.underlying3) (OpensAt.cons (off' := 4) _ rfl rfl (by kernel_rfl) (Opens.int (k := .i64) Try.underlying3) (OpensAt.cons (off' := 5) _ rfl rfl (by kernel_rfl) (Opens.int (k := .i64) Try.underlying3) (OpensAt.last _ rfl rfl (by kernel_rfl) (Opens.int (k := .i64) Try.underlying3)))))))) (fun x : S25 => (x.f0, x.f1, x.f2, x.f3, x.f4, x.f5)) (fun p => ⟨p.1, p.2.1, p.2.2.1, p.2.2.2.1, p.2.2.2.2.1, p.2.2.2.2.2⟩) (fun _ => rfl)).imp (fun _ h => h)
def WF80 (x : S80) : Prop := (Lit.int .i64 x.f0).wf = true ∧ (Lit.int .i64 x.f1).wf = true ∧ (Lit.int .i64 x.f2).wf = true
theorem open80 : Opens Try.prog 80 k80 WF80 := (Opens.iso (Opens.struct (tot := 3) Try.underlying80 (by kernel_rfl) (OpensAt.cons (off' := 1) _ rfl rfl (by kernel_rfl) (Opens.int (k := .i64) Try.underlying3) (OpensAt.cons (off' := 2) _ rfl rfl (by kernel_rfl) (Opens.int (k := .i64) Try.underlying3) (OpensAt.last _ rfl rfl (by kernel_rfl) (Opens.int (k := .i64) Try.underlying2))))) (fun x : S80 => (x.f0, x.f1, x.f2)) (fun p => ⟨p.1, p.2.1, p.2.2⟩) (fun _ => rfl)).imp (fun _ h => h)
def WF34 (x : S34) : Prop := WF25 x.f0 ∧ (∀ a0 ∈ x.f1, (Lit.int .i64 a0).wf = true) ∧ (∀ a0 ∈ x.f2, (Lit.int .u8 a0).wf = true) ∧ (∀ a0 ∈ x.f3, (∀ a1 ∈ a0, (∀ a2 ∈ a1, WF80 a2))) ∧ (∀ a0 ∈ x.f4, (Lit.int .i64 a0).wf = true)
theorem open34 : Opens Try.prog 34 k34 WF34 := (Opens.iso (Opens.struct (tot := 10) Try.underlying34 (by kernel_rfl) (OpensAt.cons (off' := 6) _ rfl rfl (by kernel_rfl) open25 (OpensAt.cons (off' := 7) _ rfl rfl (by kernel_rfl) (Opens.slice Try.underlying26 (by kernel_rfl) (Opens.int (k := .i64) Try.underlying2)) (OpensAt.cons (off' := 8) _ rfl rfl (by kernel_rfl) (Opens.slice Try.underlying22 (by kernel_rfl) (Opens.int (k := .u8) Try.underlying5)) (OpensAt.cons (off' := 9) _ rfl rfl (by kernel_rfl) (Opens.slice Try.underlying27 (by kernel_rfl) (Opens.slice Try.underlying60 (by kernel_rfl) (Opens.slice Try.underlying61 (by kernel_rfl) open80))) (OpensAt.last _ rfl rfl (by kernel_rfl) (Opens.slice Try.underlying28 (by kernel_rfl) (Opens.int (k := .i64) Try.underlying3)))))))) (fun x : S34 => (x.f0, x.f1, x.f2, x.f3, x.f4)) (fun p => ⟨p.1, p.2.1, p.2.2.1, p.2.2.2.1, p.2.2.2.2⟩) (fun _ => rfl)).imp (fun _ h => h)
end Go.Proofs.Ythfkgnkojhocbaa.S
end
section
namespace Go.Proofs.Ythfkgnkojhocbaa.S
def quarrellaw20_ScriptSpoilt.Pure : Prop := ∀ (x0 : S34) (a1 : Int) (l2 : List Int), WF34 x0 → (Lit.int .u8 a1).wf = true → l2.length ≤ 9223372036854775807 → (∀ a0 ∈ l2, (Lit.int .u8 a0).wf = true) → ∃ k, quarrellaw20_ScriptSpoilt.f k x0.f0.f0 x0.f0.f1 x0.f0.f2 x0.f0.f3 x0.f0.f4 x0.f0.f5 x0.f1 x0.f2 x0.f3 x0.f4 a1 l2 = some true
end Go.Proofs.Ythfkgnkojhocbaa.S
end
section
namespace Go.Proofs.Ythfkgnkojhocbaa.Pure
open Go.RowKit Go.Proofs.Ythfkgnkojhocbaa.S Go.Proofs.YthfkgnkojhocbaaW.PrintWords Go.Proofs.YthfkgnkojhocbaaW.PrintLast
set_option linter.unusedVariables false
/-- A config that may not be. -/
theorem get_range {l : List Int} (h7 : 7 ≤ l.length) (hc : checkB (cfgOf l 0) = false) : getF l = (rd0, 0, 2) := by
  have s0 : stepF l 0 rd0 = (2, { rd0 with at_ := 0 }) := by
    show configF l rd0 = _
    unfold configF
    rw [if_neg (by show ¬ (l.length < 0 + 7); omega), show rd0.at_ = 0 from rfl, if_pos hc]
  rw [get_bad (run_bad s0 (by simp)) (by simp)]
  rfl
/-- Too little room. -/
theorem get_full {l : List Int} (h7 : 7 ≤ l.length) (hc : checkB (cfgOf l 0) = true) (h2 : (cfgOf l 0).f2 < 2 * (cfgOf l 0).f0) : getF l = (rd0, 2, 4) := by
  have s0 : stepF l 0 rd0 = (4, { rd0 with at_ := 2 }) := by
    show configF l rd0 = _
    unfold configF
    rw [if_neg (by show ¬ (l.length < 0 + 7); omega), show rd0.at_ = 0 from rfl, if_neg (by rw [hc]; simp), if_pos h2]
  rw [get_bad (run_bad s0 (by simp)) (by simp)]
  rfl
theorem spoilt_j2 (l : List Int) (hb : isB l) (hm : l.length ≤ 1000000) (e at_ : Int) (hg : getF l = (rd0, at_, e)) (k : Nat) (hk : 1 < k) : quarrellaw20_ScriptSpoilt.j2 k l e at_ = some true := by
  obtain ⟨k, rfl⟩ : ∃ m, k = m + 1 := ⟨k - 1, by omega⟩
  rw [quarrellaw20_ScriptSpoilt.j2, getS_f l hb hm k, Option.bind_some, hg]
  simp only [flatG]
  rw [if_pos trivial, if_pos trivial]
  show some (wrap64 (((0 : Nat) : Int) + ((0 : Nat) : Int)) == 0) = some true
  simp [wrap64]
theorem isB_set {l : List Int} (h : isB l) (i : Nat) {x : Int} (hx : 0 ≤ x ∧ x ≤ 255) : isB (l.set i x) := fun y hy => by
  rcases List.mem_or_eq_of_mem_set hy with hy | rfl
  · exact h y hy
  · exact hx
theorem ScriptSpoilt : quarrellaw20_ScriptSpoilt.Pure := by
  intro x n l hwf hn hl hw
  have hd : isB x.f2 := u8_isB hwf.2.2.1
  have hbl := u8_isB hw
  have hn0 := u8_rng hn
  obtain ⟨c, f, d, a, p⟩ := x
  obtain ⟨k, hk⟩ : ∃ k : Nat, k = 3000000 := ⟨_, rfl⟩
  obtain ⟨k', e⟩ : ∃ m, k = m + 1 := ⟨k - 1, by omega⟩
  obtain ⟨k2, e2⟩ : ∃ m, k' = m + 1 := ⟨k' - 1, by omega⟩
  refine ⟨k, ?_⟩
  simp only at hd ⊢
  unfold quarrellaw20_ScriptSpoilt.f
  rw [alive_f k (by omega), Option.bind_some, if_pos rfl]
  obtain ⟨b, hb, hs⟩ := great_f c.f0 c.f1 c.f2 c.f3 c.f4 c.f5 f d a p k (by omega)
  have ht : quarrellaw20_ScriptSpoilt.j0 k n l true c.f0 c.f1 c.f2 c.f3 c.f4 c.f5 f d a p = some true := by rw [e, quarrellaw20_ScriptSpoilt.j0, if_pos rfl]
  rw [hb, Option.bind_some]
  cases b with
  | true => rw [if_pos rfl, ht]
  | false =>
    have hs := hs rfl
    rw [if_neg (by simp)]
    by_cases h : (l.length : Int) > 300
    · rw [decide_eq_true h, ht]
    rw [decide_eq_false h, e, quarrellaw20_ScriptSpoilt.j0, if_neg (by simp)]
    unfold quarrellaw20_Of.f
    rw [Option.bind_some]
    simp only
    rw [put_f c f d a p hs.fit k' (by omega), Option.bind_some]
    by_cases ho : okS c f d a p = true
    · have hO := (okS_iff c f d a p).1 ho
      obtain ⟨h8, hlen⟩ := put_len c f d a p hs.f hs.fit.d hs.a hs.t hs.fit.p
      have hB := isB_app (isB_put c f hd a p) hbl
      have hlim : (putF c f d a p).length + l.length < 140737488355328 := by omega
      have c0 := hO.c0
      have c1 := hO.c1
      have c2 := hO.c2
      have c3 := hO.c3
      have c4 := hO.c4
      have c5 := hO.c5
      rw [if_pos ho, if_pos rfl, e2, quarrellaw20_ScriptSpoilt.j1, if_neg (by simp; omega)]
      simp only [hlim, ↓reduceIte]
      rw [Option.bind_some]
      obtain ⟨R, hR⟩ : ∃ R, putF c f d a p ++ l = c.f0 % 256 :: c.f1 % 256 :: (c.f2 / 256) % 256 :: c.f2 % 256 :: c.f3 % 256 :: c.f4 % 256 :: c.f5 % 256 :: R :=
        ⟨(f.map (· % 256) ++ (a.flatMap encA ++ ((d.length : Int) % 256 :: (d ++ p.map (· % 256))))) ++ l, by unfold putF head7; simp⟩
      have hL : (putF c f d a p ++ l).length ≤ 1000000 := by rw [List.length_append]; omega
      have hL8 : 8 ≤ (putF c f d a p ++ l).length := by rw [List.length_append]; omega
      rw [hR] at hB hL hL8 ⊢
      generalize hX : (c.f0 % 256 :: c.f1 % 256 :: (c.f2 / 256) % 256 :: c.f2 % 256 :: c.f3 % 256 :: c.f4 % 256 :: c.f5 % 256 :: R) = X at hB hL hL8 ⊢
      have ht6 : Int.tmod n 6 = n % 6 := Int.tmod_eq_emod_of_nonneg (by omega)
      rw [ht6]
      have z0 : (0 : Int).toNat = 0 := rfl
      have z1 : (1 : Int).toNat = 1 := rfl
      have z2 : (2 : Int).toNat = 2 := rfl
      have z3 : (3 : Int).toNat = 3 := rfl
      have z5 : (5 : Int).toNat = 5 := rfl
      have z6 : (6 : Int).toNat = 6 := rfl
      rw [z0, z1, z2, z3, z5, z6]
      by_cases g0 : n % 6 = 0
      · rw [if_pos g0, if_pos (by omega)]
        refine spoilt_j2 _ (isB_set hB 0 (by omega)) (by simp; omega) 2 0 (get_range (by simp; omega) ?_) k2 (by omega)
        subst hX
        unfold checkB cfgOf
        exact decide_eq_false (by simp)
      rw [if_neg g0]
      by_cases g1 : n % 6 = 1
      · rw [if_pos g1, if_pos (by omega)]
        refine spoilt_j2 _ (isB_set hB 1 (by omega)) (by simp; omega) 2 0 (get_range (by simp; omega) ?_) k2 (by omega)
        subst hX
        unfold checkB cfgOf
        exact decide_eq_false (by simp)
      rw [if_neg g1]
      by_cases g2 : n % 6 = 2
      · rw [if_pos g2, if_pos (by omega), if_pos (by omega)]
        refine spoilt_j2 _ (isB_set (isB_set hB 2 (by omega)) 3 (by omega)) (by simp; omega) 2 0 (get_range (by simp; omega) ?_) k2 (by omega)
        subst hX
        unfold checkB cfgOf
        exact decide_eq_false (by simp)
      rw [if_neg g2]
      by_cases g3 : n % 6 = 3
      · rw [if_pos g3, if_pos (by omega)]
        refine spoilt_j2 _ (isB_set hB 5 (by omega)) (by simp; omega) 2 0 (get_range (by simp; omega) ?_) k2 (by omega)
        subst hX
        unfold checkB cfgOf
        exact decide_eq_false (by simp)
      rw [if_neg g3]
      by_cases g4 : n % 6 = 4
      · rw [if_pos g4, if_pos (by omega)]
        refine spoilt_j2 _ (isB_set hB 6 (by omega)) (by simp; omega) 2 0 (get_range (by simp; omega) ?_) k2 (by omega)
        subst hX
        unfold checkB cfgOf
        exact decide_eq_false (by simp)
      rw [if_neg g4, if_pos (by omega), if_pos (by omega), if_pos (by omega)]
      have hv : wrap64 (wrap64 (2 * c.f0) - 1) % 256 = 2 * c.f0 - 1 := by
        rw [wrap_id (n := 2 * c.f0) (by omega), wrap_id (by omega)]
        omega
      rw [hv]
      refine spoilt_j2 _ (isB_set (isB_set hB 2 (by omega)) 3 (by omega)) (by simp; omega) 4 2 (get_full (by simp; omega) ?_ ?_) k2 (by omega)
      · subst hX
        unfold checkB cfgOf
        refine decide_eq_true ?_
        simp only [List.set_cons_zero, List.set_cons_succ, List.getD_cons_zero, List.getD_cons_succ, Nat.zero_add]
        omega
      · subst hX
        unfold cfgOf
        simp only [List.set_cons_zero, List.set_cons_succ, List.getD_cons_zero, List.getD_cons_succ, Nat.zero_add]
        omega
    · rw [if_neg ho, if_neg (by simp), e2, quarrellaw20_ScriptSpoilt.j1, if_pos rfl]
      rfl
end Go.Proofs.Ythfkgnkojhocbaa.Pure
end
section
namespace Go.Proofs.Ythfkgnkojhocbaa.scriptSpoilt
open Go.ChangeShapes Go.WideShapes Go.ChangeAt Go.RowKit Go.Proofs.Ythfkgnkojhocbaa.Opens Go.Proofs.Ythfkgnkojhocbaa.S Go.Proofs.YthfkgnkojhocbaaW.PrintWords
set_option linter.unusedVariables false
theorem own : ownKnob Try.prog.godebug = none := by kernel_rfl
theorem laidOut : laidOutB Try.prog = true := by kernel_rfl
set_option maxRecDepth 100000 in
theorem lifted (os : Os) (started : os.Started) (H : Type) (enc : TypeId × Value → H) :
    ReturnsInHanded {} Try.checked os 8 .any (Rows.scriptSpoiltSpec.pre6 enc Try.prog Try.f8 Rows.scriptSpoiltRow.domain false) (Rows.scriptSpoiltSpec.post enc Try.prog Try.f8 false true false false) := by
  refine returnsInHanded_of_change_sized (C := Try.checked) own started (by kernel_rfl) Try.func8
    (ChangeSpec.witness6 (enc := enc) (C := Try.checked) false ⟨#[], #[.agg #[.int .i64 0, .int .i64 0, .int .i64 0, .int .i64 0, .int .i64 0, .int .i64 0, .slice none 0 0, .slice none 0 0, .slice none 0 0, .slice none 0 0], .int .u8 0, .slice none 0 0], []⟩ 8 (by kernel_rfl) (by kernel_rfl) (by kernel_rfl) (by kernel_rfl)) ?_
  intro W base args ds gs before hval0 hW hcnd hsz0 _
  have hval : ∀ (j : Nat) t v, Try.f8.params[j]? = some t → args[j]? = some v → Value.okWide Try.prog W .any base t v := hval0
  have hW' := hW
  obtain ⟨p, q, hA0, hV, rfl, hfz, hnd⟩ := hW
  have hA : DataW.TrodAll enc Try.prog W 0 (fun _ => true) true Try.f8.params.toList args.toList ds p := hA0
  rw [Try.params8] at hA hval
  obtain ⟨v0, vs0, d0, ds0, p0, q0, hargs, rfl, rfl, h0, r0⟩ := trodAll_cons hA
  obtain ⟨v1, vs1, d1, ds1, p1, q1, rfl, rfl, rfl, h1, r1⟩ := trodAll_cons r0
  obtain ⟨v2, vs2, d2, ds2, p2, q2, rfl, rfl, rfl, h2, r2⟩ := trodAll_cons r1
  obtain ⟨rfl, rfl, rfl⟩ := trodAll_nil r2
  obtain rfl : args = #[v0, v1, v2] := by cases args; simp_all
  obtain ⟨rfl, rfl⟩ := trodVars_none hV
  obtain ⟨cs0, rfl, hcs0⟩ := okWide_struct Try.underlying34 (hval 0 34 v0 rfl rfl)
  have k0 := h0
  have lt0 : ∀ x ∈ p0, x.block < W.heap.size := by obtain ⟨m, hm⟩ := k0; exact DataW.trod_lt m _ _ _ hm
  obtain ⟨x0, hk0, hq0⟩ := Opens.arg open34 h0
  simp only [Value.cells] at hk0
  obtain ⟨A0_6, c0_6, A0_7, c0_7, A0_8, c0_8, A0_9, c0_9, e0, hY0_6, hZ0_6, hY0_7, hZ0_7, hY0_8, hZ0_8, hY0_9, hZ0_9⟩ := k34_open hk0
  obtain ⟨cs0⟩ := cs0
  simp only at e0
  subst e0
  obtain ⟨a1, rfl, rfl, rfl, w1⟩ := open_int Try.underlying5 (hval 1 5 v1 rfl rfl) h1
  obtain ⟨a2, len2, cap2, rfl⟩ := okWide_slice Try.underlying22 (hval 2 22 v2 rfl rfl)
  have k2 := h2
  have lt2 : ∀ x ∈ p2, x.block < W.heap.size := by obtain ⟨m, hm⟩ := k2; exact DataW.trod_lt m _ _ _ hm
  obtain ⟨l2, ⟨A2, c2, e2, hc2, hr2⟩, hq2⟩ := Opens.arg (Opens.slice Try.underlying22 (by kernel_rfl) (Opens.int (k := .u8) Try.underlying5)) h2
  simp [Value.cells] at e2
  obtain ⟨rfl, rfl, rfl⟩ := e2
  clear hA0 hval0 hsz0
  obtain ⟨k, hP⟩ := Pure.ScriptSpoilt x0 a1 l2 hq0 w1 (Kd.C_max hr2) hq2
  refine (quarrellaw20_ScriptSpoilt.calls k x0.f0.f0 x0.f0.f1 x0.f0.f2 x0.f0.f3 x0.f0.f4 x0.f0.f5 _ _ x0.f1 _ _ x0.f2 _ _ x0.f3 _ _ x0.f4 a1 _ _ l2 true W hZ0_6 hY0_6 hZ0_7 hY0_7 hZ0_8 hY0_8 hZ0_9 hY0_9 hr2 hc2 hP).mono fun e W' ⟨he, bel0⟩ => ?_
  have bel : Below W.heap.size W W' := by first | exact bel0 | exact bel0.below
  subst he
  exact ⟨_, rfl, _, _, _, [], _, [], hW', trodAll_mk1 (shut_bool Try.underlying4 _), (trodAll_cons_mk (Below.trod laidOut (by kernel_rfl) (of_decide_eq_true (by kernel_rfl)) k0 bel lt0) (trodAll_cons_mk (shut_int Try.underlying5 w1) (trodAll_cons_mk (Below.trod laidOut (by kernel_rfl) (of_decide_eq_true (by kernel_rfl)) k2 bel lt2) trodAll_mk0))), rfl, bel.frame _, fun h => by cases h⟩
theorem over : Rows.scriptSpoiltRow.holds Try.pinned (OpenSpec.ofChange Rows.scriptSpoiltSpec) :=
  OpenClaim.holds_of_wide 8 Try.f8 rfl rfl rfl rfl rfl rfl rfl ⟨rfl, rfl, rfl, rfl, rfl⟩ rfl rfl rfl rfl rfl (by kernel_rfl) Try.func8 (by kernel_rfl)
    (of_decide_eq_true (by kernel_rfl)) (by unfold Func.isWrapper; first | (rw [if_pos (by decide +kernel)]; kernel_rfl) | (rw [if_neg (by decide +kernel)]; exact ⟨rfl, rfl⟩))
    (fun os started H enc _ => lifted os started H enc)
theorem proved : Rows.ScriptSpoiltSaid := over
#print axioms proved
end Go.Proofs.Ythfkgnkojhocbaa.scriptSpoilt
namespace Go.Proofs.Ythfkgnkojhocbaa
/-- The row, under a short name, for the claim. -/
theorem scriptSpoilt_holds : Rows.ScriptSpoiltSaid := scriptSpoilt.proved
end Go.Proofs.Ythfkgnkojhocbaa
end
