/- Part 5 of the proof of scriptCut_holds. Conditions stand in each theorem; nothing is assumed. Gathered by a program of this session out of its texts and the kit's words. -/
import Derived.Test.YthfkgnkojhocbaaZC4
import Derived.KernelRfl
section
namespace Go.Proofs.Ythfkgnkojhocbaa.S
open Go.RowKit Go.Proofs.YthfkgnkojhocbaaW.PrintWords Go.Proofs.YthfkgnkojhocbaaW.PrintLast Go.Proofs.YthfkgnkojhocbaaW.PrintMore
attribute [local go_sem] max2_int min2_int max_two min_two max_three min_three max_four min_four
set_option linter.unusedVariables false
set_option linter.unusedSimpArgs false
mutual
def quarrellaw20_ScriptCut.j0 : Nat → Int → List Int → Bool → Int → Int → Int → Int → Int → Int → List Int → List Int → List (List (List (S80))) → List Int → Option (Bool)
  | 0, _, _, _, _, _, _, _, _, _, _, _, _, _ => none
  | k + 1, x1, x2, x25, x464000, x464001, x464002, x464003, x464004, x464005, x464006, x464007, x464008, x464009 => if x25 = true then (some true) else ((quarrellaw20_Of.f x464000 x464001 x464002 x464003 x464004 x464005 x464006 x464007 x464008 ([] : List Int)).bind fun bt466 => ((script_Put.f k bt466.1 bt466.2.1 bt466.2.2.1 bt466.2.2.2.1 bt466.2.2.2.2.1 bt466.2.2.2.2.2.1 bt466.2.2.2.2.2.2.1 bt466.2.2.2.2.2.2.2.1 bt466.2.2.2.2.2.2.2.2.1 bt466.2.2.2.2.2.2.2.2.2).bind fun bt484 => (if bt484.2 = 0 then (quarrellaw20_ScriptCut.j1 k x1 x2 bt484.1 bt484.2 ((bt484.1.length : Int) == 0)) else (quarrellaw20_ScriptCut.j1 k x1 x2 bt484.1 bt484.2 true))))
def quarrellaw20_ScriptCut.j1 : Nat → Int → List Int → List Int → Int → Bool → Option (Bool)
  | 0, _, _, _, _, _ => none
  | k + 1, x1, x2, x7, x8, x39 => if x39 = true then (some (x8 == 1)) else (if (x7.length : Int) = 0 then (none) else (if 0 ≤ (Int.tmod (wrap64 (x1)) (x7.length : Int)) then (if (Int.tmod (wrap64 (x1)) (x7.length : Int)) ≤ (x7.length : Int) then ((script_Get.f k (x7.take ((Int.tmod (wrap64 (x1)) (x7.length : Int)) : Int).toNat)).bind fun bt492 => (if bt492.2.2.2.2.2.2.2.2.2.2.1 = (Int.tmod (wrap64 (x1)) (x7.length : Int)) then (quarrellaw20_ScriptCut.j2 k x2 x7 (bt492.2.2.2.2.2.2.2.2.2.2.2 != 9)) else (quarrellaw20_ScriptCut.j2 k x2 x7 true))) else (none)) else (none)))
def quarrellaw20_ScriptCut.j2 : Nat → List Int → List Int → Bool → Option (Bool)
  | 0, _, _, _ => none
  | k + 1, x2, x7, x61 => if x61 = true then (some false) else ((some (([] : List Int) : List Int)).bind fun y513 => (if y513.length + x7.length < 140737488355328 then ((some (y513 ++ x7 : List Int)).bind fun y516 => (if y516.length + x2.length < 140737488355328 then ((script_Get.f k (y516 ++ x2)).bind fun bt522 => (if bt522.2.2.2.2.2.2.2.2.2.2.2 = 0 then (quarrellaw20_ScriptCut.j3 k x2 ((bt522.2.2.2.2.2.2.2.2.2.1.length : Int) != (x2.length : Int)) bt522.1 bt522.2.1 bt522.2.2.1 bt522.2.2.2.1 bt522.2.2.2.2.1 bt522.2.2.2.2.2.1 bt522.2.2.2.2.2.2.1 bt522.2.2.2.2.2.2.2.1 bt522.2.2.2.2.2.2.2.2.1 bt522.2.2.2.2.2.2.2.2.2.1) else (quarrellaw20_ScriptCut.j3 k x2 true bt522.1 bt522.2.1 bt522.2.2.1 bt522.2.2.2.1 bt522.2.2.2.2.1 bt522.2.2.2.2.2.1 bt522.2.2.2.2.2.2.1 bt522.2.2.2.2.2.2.2.1 bt522.2.2.2.2.2.2.2.2.1 bt522.2.2.2.2.2.2.2.2.2.1))) else (none))) else (none)))
def quarrellaw20_ScriptCut.j3 : Nat → List Int → Bool → Int → Int → Int → Int → Int → Int → List Int → List Int → List (List (List (S80))) → List Int → Option (Bool)
  | 0, _, _, _, _, _, _, _, _, _, _, _, _ => none
  | k + 1, x2, x81, x543000, x543001, x543002, x543003, x543004, x543005, x543006, x543007, x543008, x543009 => if x81 = true then (some false) else (quarrellaw20_ScriptCut.l0 k x2 0 x543000 x543001 x543002 x543003 x543004 x543005 x543006 x543007 x543008 x543009)
def quarrellaw20_ScriptCut.l0 : Nat → List Int → Int → Int → Int → Int → Int → Int → Int → List Int → List Int → List (List (List (S80))) → List Int → Option (Bool)
  | 0, _, _, _, _, _, _, _, _, _, _, _, _ => none
  | k + 1, x2, x16, x543000, x543001, x543002, x543003, x543004, x543005, x543006, x543007, x543008, x543009 => if x16 < (x2.length : Int) then (if 0 ≤ x16 then (if x16 < (x543009.length : Int) then (if (rd x543009 x16) = (wrap64 (rd x2 x16)) then (quarrellaw20_ScriptCut.l0 k x2 (wrap64 (x16 + 1)) x543000 x543001 x543002 x543003 x543004 x543005 x543006 x543007 x543008 x543009) else (some false)) else (none)) else (none)) else (some true)
end
def quarrellaw20_ScriptCut.f (k : Nat) (a0_0 : Int) (a0_1 : Int) (a0_2 : Int) (a0_3 : Int) (a0_4 : Int) (a0_5 : Int) (l0_6 : List Int) (l0_7 : List Int) (l0_8 : List (List (List (S80)))) (l0_9 : List Int) (a1 : Int) (l2 : List Int) : Option (Bool) := (quarrellaw20_alive.f k).bind fun t464 => (if t464 = true then ((quarrellaw20_great.f k a0_0 a0_1 a0_2 a0_3 a0_4 a0_5 l0_6 l0_7 l0_8 l0_9).bind fun t465 => (if t465 = true then (quarrellaw20_ScriptCut.j0 k a1 l2 true a0_0 a0_1 a0_2 a0_3 a0_4 a0_5 l0_6 l0_7 l0_8 l0_9) else (quarrellaw20_ScriptCut.j0 k a1 l2 (decide ((l2.length : Int) > 200)) a0_0 a0_1 a0_2 a0_3 a0_4 a0_5 l0_6 l0_7 l0_8 l0_9))) else (some false))
theorem quarrellaw20_ScriptCut.mono_l : ∀ k, (∀ y0 y1 y2 y3 y4 y5 y6 y7 y8 y9 y10 y11 y12, LeO (quarrellaw20_ScriptCut.j0 k y0 y1 y2 y3 y4 y5 y6 y7 y8 y9 y10 y11 y12) (quarrellaw20_ScriptCut.j0 (k + 1) y0 y1 y2 y3 y4 y5 y6 y7 y8 y9 y10 y11 y12)) ∧ (∀ y0 y1 y2 y3 y4, LeO (quarrellaw20_ScriptCut.j1 k y0 y1 y2 y3 y4) (quarrellaw20_ScriptCut.j1 (k + 1) y0 y1 y2 y3 y4)) ∧ (∀ y0 y1 y2, LeO (quarrellaw20_ScriptCut.j2 k y0 y1 y2) (quarrellaw20_ScriptCut.j2 (k + 1) y0 y1 y2)) ∧ (∀ y0 y1 y2 y3 y4 y5 y6 y7 y8 y9 y10 y11, LeO (quarrellaw20_ScriptCut.j3 k y0 y1 y2 y3 y4 y5 y6 y7 y8 y9 y10 y11) (quarrellaw20_ScriptCut.j3 (k + 1) y0 y1 y2 y3 y4 y5 y6 y7 y8 y9 y10 y11)) ∧ (∀ y0 y1 y2 y3 y4 y5 y6 y7 y8 y9 y10 y11, LeO (quarrellaw20_ScriptCut.l0 k y0 y1 y2 y3 y4 y5 y6 y7 y8 y9 y10 y11) (quarrellaw20_ScriptCut.l0 (k + 1) y0 y1 y2 y3 y4 y5 y6 y7 y8 y9 y10 y11))
  | 0 => ⟨fun _ _ _ _ _ _ _ _ _ _ _ _ _ r h => by simp [quarrellaw20_ScriptCut.j0] at h, fun _ _ _ _ _ r h => by simp [quarrellaw20_ScriptCut.j1] at h, fun _ _ _ r h => by simp [quarrellaw20_ScriptCut.j2] at h, fun _ _ _ _ _ _ _ _ _ _ _ _ r h => by simp [quarrellaw20_ScriptCut.j3] at h, fun _ _ _ _ _ _ _ _ _ _ _ _ r h => by simp [quarrellaw20_ScriptCut.l0] at h⟩
  | k + 1 => by
    obtain ⟨ih0, ih1, ih2, ih3, ih4⟩ := quarrellaw20_ScriptCut.mono_l k
    refine ⟨?_, ?_, ?_, ?_, ?_⟩
    · intro y0 y1 y2 y3 y4 y5 y6 y7 y8 y9 y10 y11 y12
      unfold quarrellaw20_ScriptCut.j0
      repeat' first
      | (with_reducible exact ih0 _ _ _ _ _ _ _ _ _ _ _ _ _)
      | (with_reducible exact ih1 _ _ _ _ _)
      | (with_reducible exact ih2 _ _ _)
      | (with_reducible exact ih3 _ _ _ _ _ _ _ _ _ _ _ _)
      | (with_reducible exact ih4 _ _ _ _ _ _ _ _ _ _ _ _)
      | (with_reducible exact quarrellaw20_alive.mono _)
      | (with_reducible exact quarrellaw20_great.mono _ _ _ _ _ _ _ _ _ _ _)
      | (with_reducible exact script_Get.mono _ _)
      | (with_reducible exact script_Put.mono _ _ _ _ _ _ _ _ _ _ _)
      | (with_reducible exact LeO.refl _)
      | (with_reducible exact LeO.none _)
      | (with_reducible refine LeO.ite ?_ ?_)
      | (with_reducible refine LeO.bind ?_ (fun _ => ?_))
      | exact ih0 _ _ _ _ _ _ _ _ _ _ _ _ _
      | exact ih1 _ _ _ _ _
      | exact ih2 _ _ _
      | exact ih3 _ _ _ _ _ _ _ _ _ _ _ _
      | exact ih4 _ _ _ _ _ _ _ _ _ _ _ _
      | exact quarrellaw20_alive.mono _
      | exact quarrellaw20_great.mono _ _ _ _ _ _ _ _ _ _ _
      | exact script_Get.mono _ _
      | exact script_Put.mono _ _ _ _ _ _ _ _ _ _ _
      | exact LeO.none _
      | refine LeO.ite ?_ ?_
      | refine LeO.bind ?_ (fun _ => ?_)
    · intro y0 y1 y2 y3 y4
      unfold quarrellaw20_ScriptCut.j1
      repeat' first
      | (with_reducible exact ih0 _ _ _ _ _ _ _ _ _ _ _ _ _)
      | (with_reducible exact ih1 _ _ _ _ _)
      | (with_reducible exact ih2 _ _ _)
      | (with_reducible exact ih3 _ _ _ _ _ _ _ _ _ _ _ _)
      | (with_reducible exact ih4 _ _ _ _ _ _ _ _ _ _ _ _)
      | (with_reducible exact quarrellaw20_alive.mono _)
      | (with_reducible exact quarrellaw20_great.mono _ _ _ _ _ _ _ _ _ _ _)
      | (with_reducible exact script_Get.mono _ _)
      | (with_reducible exact script_Put.mono _ _ _ _ _ _ _ _ _ _ _)
      | (with_reducible exact LeO.refl _)
      | (with_reducible exact LeO.none _)
      | (with_reducible refine LeO.ite ?_ ?_)
      | (with_reducible refine LeO.bind ?_ (fun _ => ?_))
      | exact ih0 _ _ _ _ _ _ _ _ _ _ _ _ _
      | exact ih1 _ _ _ _ _
      | exact ih2 _ _ _
      | exact ih3 _ _ _ _ _ _ _ _ _ _ _ _
      | exact ih4 _ _ _ _ _ _ _ _ _ _ _ _
      | exact quarrellaw20_alive.mono _
      | exact quarrellaw20_great.mono _ _ _ _ _ _ _ _ _ _ _
      | exact script_Get.mono _ _
      | exact script_Put.mono _ _ _ _ _ _ _ _ _ _ _
      | exact LeO.none _
      | refine LeO.ite ?_ ?_
      | refine LeO.bind ?_ (fun _ => ?_)
    · intro y0 y1 y2
      unfold quarrellaw20_ScriptCut.j2
      repeat' first
      | (with_reducible exact ih0 _ _ _ _ _ _ _ _ _ _ _ _ _)
      | (with_reducible exact ih1 _ _ _ _ _)
      | (with_reducible exact ih2 _ _ _)
      | (with_reducible exact ih3 _ _ _ _ _ _ _ _ _ _ _ _)
      | (with_reducible exact ih4 _ _ _ _ _ _ _ _ _ _ _ _)
      | (with_reducible exact quarrellaw20_alive.mono _)
      | (with_reducible exact quarrellaw20_great.mono _ _ _ _ _ _ _ _ _ _ _)
      | (with_reducible exact script_Get.mono _ _)
      | (with_reducible exact script_Put.mono _ _ _ _ _ _ _ _ _ _ _)
      | (with_reducible exact LeO.refl _)
      | (with_reducible exact LeO.none _)
      | (with_reducible refine LeO.ite ?_ ?_)
      | (with_reducible refine LeO.bind ?_ (fun _ => ?_))
      | exact ih0 _ _ _ _ _ _ _ _ _ _ _ _ _
      | exact ih1 _ _ _ _ _
      | exact ih2 _ _ _
      | exact ih3 _ _ _ _ _ _ _ _ _ _ _ _
      | exact ih4 _ _ _ _ _ _ _ _ _ _ _ _
      | exact quarrellaw20_alive.mono _
      | exact quarrellaw20_great.mono _ _ _ _ _ _ _ _ _ _ _
      | exact script_Get.mono _ _
      | exact script_Put.mono _ _ _ _ _ _ _ _ _ _ _
      | exact LeO.none _
      | refine LeO.ite ?_ ?_
      | refine LeO.bind ?_ (fun _ => ?_)
    · intro y0 y1 y2 y3 y4 y5 y6 y7 y8 y9 y10 y11
      unfold quarrellaw20_ScriptCut.j3
      repeat' first
      | (with_reducible exact ih0 _ _ _ _ _ _ _ _ _ _ _ _ _)
      | (with_reducible exact ih1 _ _ _ _ _)
      | (with_reducible exact ih2 _ _ _)
      | (with_reducible exact ih3 _ _ _ _ _ _ _ _ _ _ _ _)
      | (with_reducible exact ih4 _ _ _ _ _ _ _ _ _ _ _ _)
      | (with_reducible exact quarrellaw20_alive.mono _)
      | (with_reducible exact quarrellaw20_great.mono _ _ _ _ _ _ _ _ _ _ _)
      | (with_reducible exact script_Get.mono _ _)
      | (with_reducible exact script_Put.mono _ _ _ _ _ _ _ _ _ _ _)
      | (with_reducible exact LeO.refl _)
      | (with_reducible exact LeO.none _)
      | (with_reducible refine LeO.ite ?_ ?_)
      | (with_reducible refine LeO.bind ?_ (fun _ => ?_))
      | exact ih0 _ _ _ _ _ _ _ _ _ _ _ _ _
      | exact ih1 _ _ _ _ _
      | exact ih2 _ _ _
      | exact ih3 _ _ _ _ _ _ _ _ _ _ _ _
      | exact ih4 _ _ _ _ _ _ _ _ _ _ _ _
      | exact quarrellaw20_alive.mono _
      | exact quarrellaw20_great.mono _ _ _ _ _ _ _ _ _ _ _
      | exact script_Get.mono _ _
      | exact script_Put.mono _ _ _ _ _ _ _ _ _ _ _
      | exact LeO.none _
      | refine LeO.ite ?_ ?_
      | refine LeO.bind ?_ (fun _ => ?_)
    · intro y0 y1 y2 y3 y4 y5 y6 y7 y8 y9 y10 y11
      unfold quarrellaw20_ScriptCut.l0
      repeat' first
      | (with_reducible exact ih0 _ _ _ _ _ _ _ _ _ _ _ _ _)
      | (with_reducible exact ih1 _ _ _ _ _)
      | (with_reducible exact ih2 _ _ _)
      | (with_reducible exact ih3 _ _ _ _ _ _ _ _ _ _ _ _)
      | (with_reducible exact ih4 _ _ _ _ _ _ _ _ _ _ _ _)
      | (with_reducible exact quarrellaw20_alive.mono _)
      | (with_reducible exact quarrellaw20_great.mono _ _ _ _ _ _ _ _ _ _ _)
      | (with_reducible exact script_Get.mono _ _)
      | (with_reducible exact script_Put.mono _ _ _ _ _ _ _ _ _ _ _)
      | (with_reducible exact LeO.refl _)
      | (with_reducible exact LeO.none _)
      | (with_reducible refine LeO.ite ?_ ?_)
      | (with_reducible refine LeO.bind ?_ (fun _ => ?_))
      | exact ih0 _ _ _ _ _ _ _ _ _ _ _ _ _
      | exact ih1 _ _ _ _ _
      | exact ih2 _ _ _
      | exact ih3 _ _ _ _ _ _ _ _ _ _ _ _
      | exact ih4 _ _ _ _ _ _ _ _ _ _ _ _
      | exact quarrellaw20_alive.mono _
      | exact quarrellaw20_great.mono _ _ _ _ _ _ _ _ _ _ _
      | exact script_Get.mono _ _
      | exact script_Put.mono _ _ _ _ _ _ _ _ _ _ _
      | exact LeO.none _
      | refine LeO.ite ?_ ?_
      | refine LeO.bind ?_ (fun _ => ?_)
theorem quarrellaw20_ScriptCut.mono : ∀ a0 a1 a2 a3 a4 a5 a6 a7 a8 a9 a10 a11 k, LeO (quarrellaw20_ScriptCut.f k a0 a1 a2 a3 a4 a5 a6 a7 a8 a9 a10 a11) (quarrellaw20_ScriptCut.f (k + 1) a0 a1 a2 a3 a4 a5 a6 a7 a8 a9 a10 a11) := by
  intro a0 a1 a2 a3 a4 a5 a6 a7 a8 a9 a10 a11 k
  obtain ⟨ih0, ih1, ih2, ih3, ih4⟩ := quarrellaw20_ScriptCut.mono_l k
  unfold quarrellaw20_ScriptCut.f
  repeat' first
      | (with_reducible exact ih0 _ _ _ _ _ _ _ _ _ _ _ _ _)
      | (with_reducible exact ih1 _ _ _ _ _)
      | (with_reducible exact ih2 _ _ _)
      | (with_reducible exact ih3 _ _ _ _ _ _ _ _ _ _ _ _)
      | (with_reducible exact ih4 _ _ _ _ _ _ _ _ _ _ _ _)
      | (with_reducible exact quarrellaw20_alive.mono _)
      | (with_reducible exact quarrellaw20_great.mono _ _ _ _ _ _ _ _ _ _ _)
      | (with_reducible exact script_Get.mono _ _)
      | (with_reducible exact script_Put.mono _ _ _ _ _ _ _ _ _ _ _)
      | (with_reducible exact LeO.refl _)
      | (with_reducible exact LeO.none _)
      | (with_reducible refine LeO.ite ?_ ?_)
      | (with_reducible refine LeO.bind ?_ (fun _ => ?_))
      | exact ih0 _ _ _ _ _ _ _ _ _ _ _ _ _
      | exact ih1 _ _ _ _ _
      | exact ih2 _ _ _
      | exact ih3 _ _ _ _ _ _ _ _ _ _ _ _
      | exact ih4 _ _ _ _ _ _ _ _ _ _ _ _
      | exact quarrellaw20_alive.mono _
      | exact quarrellaw20_great.mono _ _ _ _ _ _ _ _ _ _ _
      | exact script_Get.mono _ _
      | exact script_Put.mono _ _ _ _ _ _ _ _ _ _ _
      | exact LeO.none _
      | refine LeO.ite ?_ ?_
      | refine LeO.bind ?_ (fun _ => ?_)
set_option maxHeartbeats 8000000 in
set_option maxRecDepth 100000 in
theorem quarrellaw20_ScriptCut.calls (k : Nat) (a0_0 : Int) (a0_1 : Int) (a0_2 : Int) (a0_3 : Int) (a0_4 : Int) (a0_5 : Int) (A0_6 : Option Addr) (c0_6 : Nat) (l0_6 : List Int) (A0_7 : Option Addr) (c0_7 : Nat) (l0_7 : List Int) (A0_8 : Option Addr) (c0_8 : Nat) (l0_8 : List (List (List (S80)))) (A0_9 : Option Addr) (c0_9 : Nat) (l0_9 : List Int) (a1 : Int) (A2 : Option Addr) (c2 : Nat) (l2 : List Int) (r : Bool) (w : World) (hr0_6 : Kd.C (Kd.int .i64) w A0_6 l0_6.length l0_6) (hc0_6 : l0_6.length ≤ c0_6) (hr0_7 : Kd.C (Kd.int .u8) w A0_7 l0_7.length l0_7) (hc0_7 : l0_7.length ≤ c0_7) (hr0_8 : Kd.C (Kd.slice 61 (Kd.slice 80 k80)) w A0_8 l0_8.length l0_8) (hc0_8 : l0_8.length ≤ c0_8) (hr0_9 : Kd.C (Kd.int .i64) w A0_9 l0_9.length l0_9) (hc0_9 : l0_9.length ≤ c0_9) (hr2 : Kd.C (Kd.int .u8) w A2 l2.length l2) (hc2 : l2.length ≤ c2) (h : quarrellaw20_ScriptCut.f k a0_0 a0_1 a0_2 a0_3 a0_4 a0_5 l0_6 l0_7 l0_8 l0_9 a1 l2 = some r) :
  Calls Try.prog 6 #[.agg #[.int .i64 a0_0, .int .i64 a0_1, .int .i64 a0_2, .int .i64 a0_3, .int .i64 a0_4, .int .i64 a0_5, .slice A0_6 l0_6.length c0_6, .slice A0_7 l0_7.length c0_7, .slice A0_8 l0_8.length c0_8, .slice A0_9 l0_9.length c0_9], .int .u16 a1, .slice A2 l2.length c2] w fun e w' => e = .returned (.bool r) ∧ Below w.heap.size w w' := by
 have hu34 := Try.underlying34
 have hu30 := Try.underlying30
 have HR0_6 := Aside0.mk hr0_6
 have HC0_6 := Aside0.mk hc0_6
 clear hr0_6 hc0_6
 have HR0_7 := Aside0.mk hr0_7
 have HC0_7 := Aside0.mk hc0_7
 clear hr0_7 hc0_7
 have HR0_8 := Aside0.mk hr0_8
 have HC0_8 := Aside0.mk hc0_8
 clear hr0_8 hc0_8
 have HR0_9 := Aside0.mk hr0_9
 have HC0_9 := Aside0.mk hc0_9
 clear hr0_9 hc0_9
 have HR2 := Aside0.mk hr2
 have HC2 := Aside0.mk hc2
 clear hr2 hc2
 have HB := Aside0.mk (Below.refl w.heap.size w)
 have H : ((quarrellaw20_alive.f k).bind fun t464 => (if t464 = true then ((quarrellaw20_great.f k a0_0 a0_1 a0_2 a0_3 a0_4 a0_5 l0_6 l0_7 l0_8 l0_9).bind fun t465 => (if t465 = true then (quarrellaw20_ScriptCut.j0 k a1 l2 true a0_0 a0_1 a0_2 a0_3 a0_4 a0_5 l0_6 l0_7 l0_8 l0_9) else (quarrellaw20_ScriptCut.j0 k a1 l2 (decide ((l2.length : Int) > 200)) a0_0 a0_1 a0_2 a0_3 a0_4 a0_5 l0_6 l0_7 l0_8 l0_9))) else (some false))) = some r := h
 clear h
 replace H := Option.bind_eq_some_iff.mp H
 obtain ⟨t464, A40, H⟩ := H
 replace H : (if t464 = true then ((quarrellaw20_great.f k a0_0 a0_1 a0_2 a0_3 a0_4 a0_5 l0_6 l0_7 l0_8 l0_9).bind fun t465 => (if t465 = true then (quarrellaw20_ScriptCut.j0 k a1 l2 true a0_0 a0_1 a0_2 a0_3 a0_4 a0_5 l0_6 l0_7 l0_8 l0_9) else (quarrellaw20_ScriptCut.j0 k a1 l2 (decide ((l2.length : Int) > 200)) a0_0 a0_1 a0_2 a0_3 a0_4 a0_5 l0_6 l0_7 l0_8 l0_9))) else (some false)) = some r := H
 have A4 := Aside0.mk A40
 clear A40
 by_cases c5 : t464 = true
 ·subst c5
  have H1 : ((quarrellaw20_great.f k a0_0 a0_1 a0_2 a0_3 a0_4 a0_5 l0_6 l0_7 l0_8 l0_9).bind fun t465 => (if t465 = true then (quarrellaw20_ScriptCut.j0 k a1 l2 true a0_0 a0_1 a0_2 a0_3 a0_4 a0_5 l0_6 l0_7 l0_8 l0_9) else (quarrellaw20_ScriptCut.j0 k a1 l2 (decide ((l2.length : Int) > 200)) a0_0 a0_1 a0_2 a0_3 a0_4 a0_5 l0_6 l0_7 l0_8 l0_9))) = some r := by rw [if_pos rfl] at H; exact H
  clear H
  have H := H1
  clear H1
  have HC6 := Aside0.mk H
  clear H
  go_enter Try.func6, Try.ntmps6
  go_upto_region 3 with (first | ((with_reducible refine gate_dst (N := 3) rfl ?_); (try (refine gate_guard (by rfl) ?_; dsimp only)); refine box_event ?hg (N := 3) ?hd (cs := #[.int .i64 a0_0, .int .i64 a0_1, .int .i64 a0_2, .int .i64 a0_3, .int .i64 a0_4, .int .i64 a0_5, .slice A0_6 l0_6.length c0_6, .slice A0_7 l0_7.length c0_7, .slice A0_8 l0_8.length c0_8, .slice A0_9 l0_9.length c0_9]) (t := 34) ?hr ?_; (case hd => rfl); (case hg => rfl); (case hr => first | (go_simp; done) | (go_simp; rfl)); intro gb463 hg w7 hbox hb; have n0_ := Aside0.mk (below_step (by repeat (first | (with_reducible first | exact HB.out | apply below_alloc | apply pw_below_drewN | apply below_drew1) | exact HB.out)) hb); have n1_ := Aside0.mk (hbox); have n2_ := Aside0.mk ((by rw [hg]; exact (below_size (by repeat (first | (with_reducible first | exact HB.out | apply below_alloc | apply pw_below_drewN | apply below_drew1) | exact HB.out))) : w.heap.size ≤ gb463)); have n3_ := Aside0.mk ((by rw [hg]; exact (below_size (by repeat (first | (with_reducible first | exact HB.out | apply below_alloc | apply pw_below_drewN | apply below_drew1) | exact HB.out))) : w.heap.size ≤ gb463)); clear HB; have HB := n0_; have BK463 := n1_; have GW463 := n2_; have GE463 := n3_; clear n0_ n1_ n2_ n3_; clear hb hbox hg) | (go_at_call 9; (with_reducible refine (quarrellaw20_alive.calls k  true _ A4.out).mono ?_); rintro e w8 ⟨rfl, hb⟩; have n0_ := Aside0.mk (blk_below (g := gb463) (o := .cells #[.int .i64 a0_0, .int .i64 a0_1, .int .i64 a0_2, .int .i64 a0_3, .int .i64 a0_4, .int .i64 a0_5, .slice A0_6 l0_6.length c0_6, .slice A0_7 l0_7.length c0_7, .slice A0_8 l0_8.length c0_8, .slice A0_9 l0_9.length c0_9] 34 (0, 0)) (by (with_reducible repeat (first | refine blk_drewN ?_ _ | refine blk_drew ?_ | refine blk_alloc ?_ _)); exact BK463.out) hb); have n1_ := Aside0.mk (below_step (by repeat (first | (with_reducible first | exact HB.out | apply below_alloc | apply pw_below_drewN | apply below_drew1 | refine below_set ?_ GE463.out) | exact HB.out)) hb); clear BK463; clear HB; have BK463 := n0_; have HB := n1_; clear n0_ n1_; (try clear hb); (try clear hb2); (try clear hk); (try clear hi)))
  (try simp only [Act.put, List.setIfInBounds_toArray, List.set_cons_zero, List.set_cons_succ])
  go_cut [25] (fun v25 wc => ∃ (kq : Nat) (x25_5 : Bool), v25 = .bool x25_5 ∧ Aside0 (quarrellaw20_ScriptCut.j0 kq a1 l2 x25_5 a0_0 a0_1 a0_2 a0_3 a0_4 a0_5 l0_6 l0_7 l0_8 l0_9 = some r) ∧ Aside0 (kq ≤ k) ∧ Aside0 (wc.heap[gb463]? = some (.cells #[.int .i64 a0_0, .int .i64 a0_1, .int .i64 a0_2, .int .i64 a0_3, .int .i64 a0_4, .int .i64 a0_5, (.slice A0_6 l0_6.length c0_6), (.slice A0_7 l0_7.length c0_7), (.slice A0_8 l0_8.length c0_8), (.slice A0_9 l0_9.length c0_9)] 34 (0, 0))) ∧ Aside0 (Below w.heap.size w wc))
  case first =>
   have H := HC6.out
   clear HC6
   replace H := Option.bind_eq_some_iff.mp H
   obtain ⟨t465, A90, H⟩ := H
   replace H : (if t465 = true then (quarrellaw20_ScriptCut.j0 k a1 l2 true a0_0 a0_1 a0_2 a0_3 a0_4 a0_5 l0_6 l0_7 l0_8 l0_9) else (quarrellaw20_ScriptCut.j0 k a1 l2 (decide ((l2.length : Int) > 200)) a0_0 a0_1 a0_2 a0_3 a0_4 a0_5 l0_6 l0_7 l0_8 l0_9)) = some r := H
   have A9 := Aside0.mk A90
   clear A90
   by_cases c10 : t465 = true
   ·subst c10
    have H1 : (quarrellaw20_ScriptCut.j0 k a1 l2 true a0_0 a0_1 a0_2 a0_3 a0_4 a0_5 l0_6 l0_7 l0_8 l0_9) = some r := by rw [if_pos rfl] at H; exact H
    clear H
    have H := H1
    clear H1
    have H' := Aside0.mk H
    clear H
    have hcz11_0 : w8.cell? ⟨gb463, 0, none⟩ = some (.int .i64 a0_0) := (blk_cell BK463.out 0).trans rfl
    have hcz11_1 : w8.cell? ⟨gb463, 1, none⟩ = some (.int .i64 a0_1) := (blk_cell BK463.out 1).trans rfl
    have hcz11_2 : w8.cell? ⟨gb463, 2, none⟩ = some (.int .i64 a0_2) := (blk_cell BK463.out 2).trans rfl
    have hcz11_3 : w8.cell? ⟨gb463, 3, none⟩ = some (.int .i64 a0_3) := (blk_cell BK463.out 3).trans rfl
    have hcz11_4 : w8.cell? ⟨gb463, 4, none⟩ = some (.int .i64 a0_4) := (blk_cell BK463.out 4).trans rfl
    have hcz11_5 : w8.cell? ⟨gb463, 5, none⟩ = some (.int .i64 a0_5) := (blk_cell BK463.out 5).trans rfl
    have hcz11_6 : w8.cell? ⟨gb463, 6, none⟩ = some (.slice A0_6 l0_6.length c0_6) := (blk_cell BK463.out 6).trans rfl
    have hcz11_7 : w8.cell? ⟨gb463, 7, none⟩ = some (.slice A0_7 l0_7.length c0_7) := (blk_cell BK463.out 7).trans rfl
    have hcz11_8 : w8.cell? ⟨gb463, 8, none⟩ = some (.slice A0_8 l0_8.length c0_8) := (blk_cell BK463.out 8).trans rfl
    have hcz11_9 : w8.cell? ⟨gb463, 9, none⟩ = some (.slice A0_9 l0_9.length c0_9) := (blk_cell BK463.out 9).trans rfl
    have hfz11_0 := blk_frozen BK463.out 0
    have hfz11_1 := blk_frozen BK463.out 1
    have hfz11_2 := blk_frozen BK463.out 2
    have hfz11_3 := blk_frozen BK463.out 3
    have hfz11_4 := blk_frozen BK463.out 4
    have hfz11_5 := blk_frozen BK463.out 5
    have hfz11_6 := blk_frozen BK463.out 6
    have hfz11_7 := blk_frozen BK463.out 7
    have hfz11_8 := blk_frozen BK463.out 8
    have hfz11_9 := blk_frozen BK463.out 9
    go_wp2_with (first | (go_at_call 13; (with_reducible refine (quarrellaw20_great.calls k a0_0 a0_1 a0_2 a0_3 a0_4 a0_5 _ _ l0_6 _ _ l0_7 _ _ l0_8 _ _ l0_9 true _ ?side1 ?side2 ?side3 ?side4 ?side5 ?side6 ?side7 ?side8 A9.out).mono ?_); (case side1 => repeat (first | exact (Kd.C_below HR0_6.out HB.out) | (with_reducible refine Kd.C_alloc ?_ _) | (with_reducible refine Kd.C_drewN ?_ _) | (with_reducible refine Kd.C_drew ?_))); (case side2 => exact HC0_6.out); (case side3 => repeat (first | exact (Kd.C_below HR0_7.out HB.out) | (with_reducible refine Kd.C_alloc ?_ _) | (with_reducible refine Kd.C_drewN ?_ _) | (with_reducible refine Kd.C_drew ?_))); (case side4 => exact HC0_7.out); (case side5 => repeat (first | exact (Kd.C_below HR0_8.out HB.out) | (with_reducible refine Kd.C_alloc ?_ _) | (with_reducible refine Kd.C_drewN ?_ _) | (with_reducible refine Kd.C_drew ?_))); (case side6 => exact HC0_8.out); (case side7 => repeat (first | exact (Kd.C_below HR0_9.out HB.out) | (with_reducible refine Kd.C_alloc ?_ _) | (with_reducible refine Kd.C_drewN ?_ _) | (with_reducible refine Kd.C_drew ?_))); (case side8 => exact HC0_9.out); rintro e w12 ⟨rfl, hb⟩; have n0_ := Aside0.mk (blk_below (g := gb463) (o := .cells #[.int .i64 a0_0, .int .i64 a0_1, .int .i64 a0_2, .int .i64 a0_3, .int .i64 a0_4, .int .i64 a0_5, .slice A0_6 l0_6.length c0_6, .slice A0_7 l0_7.length c0_7, .slice A0_8 l0_8.length c0_8, .slice A0_9 l0_9.length c0_9] 34 (0, 0)) (by (with_reducible repeat (first | refine blk_drewN ?_ _ | refine blk_drew ?_ | refine blk_alloc ?_ _)); exact BK463.out) hb); have n1_ := Aside0.mk (below_step (by repeat (first | (with_reducible first | exact HB.out | apply below_alloc | apply pw_below_drewN | apply below_drew1 | refine below_set ?_ GE463.out) | exact HB.out)) hb); clear BK463; clear HB; have BK463 := n0_; have HB := n1_; clear n0_ n1_; (try clear hb); (try clear hb2); (try clear hk); (try clear hi)))
    go_meet
    case rel => exact ⟨_, (true), (by first | rfl | (simp; done) | (simp [*]; done)), H', ⟨by first | omega | exact Nat.le_refl _⟩, ⟨by (with_reducible repeat (first | refine blk_drewN ?_ _ | refine blk_drew ?_ | refine blk_alloc ?_ _)); exact BK463.out⟩, ⟨by repeat (first | (with_reducible first | exact HB.out | apply below_alloc | apply pw_below_drewN | apply below_drew1 | refine below_set ?_ GE463.out) | exact HB.out)⟩⟩
   ·replace c10 := Bool.eq_false_iff.mpr c10
    subst c10
    have H1 : (quarrellaw20_ScriptCut.j0 k a1 l2 (decide ((l2.length : Int) > 200)) a0_0 a0_1 a0_2 a0_3 a0_4 a0_5 l0_6 l0_7 l0_8 l0_9) = some r := by rw [if_neg (show ¬ (false = true) by decide)] at H; exact H
    clear H
    have H := H1
    clear H1
    have H' := Aside0.mk H
    clear H
    have hcz13_0 : w8.cell? ⟨gb463, 0, none⟩ = some (.int .i64 a0_0) := (blk_cell BK463.out 0).trans rfl
    have hcz13_1 : w8.cell? ⟨gb463, 1, none⟩ = some (.int .i64 a0_1) := (blk_cell BK463.out 1).trans rfl
    have hcz13_2 : w8.cell? ⟨gb463, 2, none⟩ = some (.int .i64 a0_2) := (blk_cell BK463.out 2).trans rfl
    have hcz13_3 : w8.cell? ⟨gb463, 3, none⟩ = some (.int .i64 a0_3) := (blk_cell BK463.out 3).trans rfl
    have hcz13_4 : w8.cell? ⟨gb463, 4, none⟩ = some (.int .i64 a0_4) := (blk_cell BK463.out 4).trans rfl
    have hcz13_5 : w8.cell? ⟨gb463, 5, none⟩ = some (.int .i64 a0_5) := (blk_cell BK463.out 5).trans rfl
    have hcz13_6 : w8.cell? ⟨gb463, 6, none⟩ = some (.slice A0_6 l0_6.length c0_6) := (blk_cell BK463.out 6).trans rfl
    have hcz13_7 : w8.cell? ⟨gb463, 7, none⟩ = some (.slice A0_7 l0_7.length c0_7) := (blk_cell BK463.out 7).trans rfl
    have hcz13_8 : w8.cell? ⟨gb463, 8, none⟩ = some (.slice A0_8 l0_8.length c0_8) := (blk_cell BK463.out 8).trans rfl
    have hcz13_9 : w8.cell? ⟨gb463, 9, none⟩ = some (.slice A0_9 l0_9.length c0_9) := (blk_cell BK463.out 9).trans rfl
    have hfz13_0 := blk_frozen BK463.out 0
    have hfz13_1 := blk_frozen BK463.out 1
    have hfz13_2 := blk_frozen BK463.out 2
    have hfz13_3 := blk_frozen BK463.out 3
    have hfz13_4 := blk_frozen BK463.out 4
    have hfz13_5 := blk_frozen BK463.out 5
    have hfz13_6 := blk_frozen BK463.out 6
    have hfz13_7 := blk_frozen BK463.out 7
    have hfz13_8 := blk_frozen BK463.out 8
    have hfz13_9 := blk_frozen BK463.out 9
    go_wp2_with (first | (go_at_call 13; (with_reducible refine (quarrellaw20_great.calls k a0_0 a0_1 a0_2 a0_3 a0_4 a0_5 _ _ l0_6 _ _ l0_7 _ _ l0_8 _ _ l0_9 false _ ?side1 ?side2 ?side3 ?side4 ?side5 ?side6 ?side7 ?side8 A9.out).mono ?_); (case side1 => repeat (first | exact (Kd.C_below HR0_6.out HB.out) | (with_reducible refine Kd.C_alloc ?_ _) | (with_reducible refine Kd.C_drewN ?_ _) | (with_reducible refine Kd.C_drew ?_))); (case side2 => exact HC0_6.out); (case side3 => repeat (first | exact (Kd.C_below HR0_7.out HB.out) | (with_reducible refine Kd.C_alloc ?_ _) | (with_reducible refine Kd.C_drewN ?_ _) | (with_reducible refine Kd.C_drew ?_))); (case side4 => exact HC0_7.out); (case side5 => repeat (first | exact (Kd.C_below HR0_8.out HB.out) | (with_reducible refine Kd.C_alloc ?_ _) | (with_reducible refine Kd.C_drewN ?_ _) | (with_reducible refine Kd.C_drew ?_))); (case side6 => exact HC0_8.out); (case side7 => repeat (first | exact (Kd.C_below HR0_9.out HB.out) | (with_reducible refine Kd.C_alloc ?_ _) | (with_reducible refine Kd.C_drewN ?_ _) | (with_reducible refine Kd.C_drew ?_))); (case side8 => exact HC0_9.out); rintro e w14 ⟨rfl, hb⟩; have n0_ := Aside0.mk (blk_below (g := gb463) (o := .cells #[.int .i64 a0_0, .int .i64 a0_1, .int .i64 a0_2, .int .i64 a0_3, .int .i64 a0_4, .int .i64 a0_5, .slice A0_6 l0_6.length c0_6, .slice A0_7 l0_7.length c0_7, .slice A0_8 l0_8.length c0_8, .slice A0_9 l0_9.length c0_9] 34 (0, 0)) (by (with_reducible repeat (first | refine blk_drewN ?_ _ | refine blk_drew ?_ | refine blk_alloc ?_ _)); exact BK463.out) hb); have n1_ := Aside0.mk (below_step (by repeat (first | (with_reducible first | exact HB.out | apply below_alloc | apply pw_below_drewN | apply below_drew1 | refine below_set ?_ GE463.out) | exact HB.out)) hb); clear BK463; clear HB; have BK463 := n0_; have HB := n1_; clear n0_ n1_; (try clear hb); (try clear hb2); (try clear hk); (try clear hi)))
    go_meet
    case rel => exact ⟨_, (decide ((l2.length : Int) > 200)), (by first | rfl | (simp; done) | (simp [*]; done)), H', ⟨by first | omega | exact Nat.le_refl _⟩, ⟨by (with_reducible repeat (first | refine blk_drewN ?_ _ | refine blk_drew ?_ | refine blk_alloc ?_ _)); exact BK463.out⟩, ⟨by repeat (first | (with_reducible first | exact HB.out | apply below_alloc | apply pw_below_drewN | apply below_drew1 | refine below_set ?_ GE463.out) | exact HB.out)⟩⟩
  case rest =>
   clear HC6
   try clear c1
   try clear c2
   try clear p2
   try clear c5
   try clear c6
   try clear c10
   try clear hcz11_0
   try clear hcz11_1
   try clear hcz11_2
   try clear hcz11_3
   try clear hcz11_4
   try clear hcz11_5
   try clear hcz11_6
   try clear hcz11_7
   try clear hcz11_8
   try clear hcz11_9
   try clear hcz13_0
   try clear hcz13_1
   try clear hcz13_2
   try clear hcz13_3
   try clear hcz13_4
   try clear hcz13_5
   try clear hcz13_6
   try clear hcz13_7
   try clear hcz13_8
   try clear hcz13_9
   try clear hfz11_0
   try clear hfz11_1
   try clear hfz11_2
   try clear hfz11_3
   try clear hfz11_4
   try clear hfz11_5
   try clear hfz11_6
   try clear hfz11_7
   try clear hfz11_8
   try clear hfz11_9
   try clear hfz13_0
   try clear hfz13_1
   try clear hfz13_2
   try clear hfz13_3
   try clear hfz13_4
   try clear hfz13_5
   try clear hfz13_6
   try clear hfz13_7
   try clear hfz13_8
   try clear hfz13_9
   obtain ⟨kq, x25_5, rfl, HA, HJ5, BK463, HB⟩ := hcut
   cases kq with
   | zero => exact absurd HA.out (by simp [quarrellaw20_ScriptCut.j0])
   | succ kj5 =>
    have H := HA.out
    clear HA
    simp only [quarrellaw20_ScriptCut.j0] at H
    by_cases c15 : x25_5 = true
    ·subst c15
     have H1 : (some true) = some r := by rw [if_pos rfl] at H; exact H
     clear H
     have H := H1
     clear H1
     obtain rfl := Option.some.inj H
     go_wp2
     repeat (go_quiet (fail); try go_wp2)
     go_ret
     exact ⟨by first | rfl | (simp [errW_none, errW_some] <;> rfl) | (simp [*, errW_none, errW_some] <;> rfl), by repeat (first | (with_reducible first | exact HB.out | apply below_alloc | apply pw_below_drewN | apply below_drew1 | refine below_set ?_ GE463.out) | exact HB.out)⟩
    ·replace c15 := Bool.eq_false_iff.mpr c15
     subst c15
     have H1 : ((quarrellaw20_Of.f a0_0 a0_1 a0_2 a0_3 a0_4 a0_5 l0_6 l0_7 l0_8 ([] : List Int)).bind fun bt466 => ((script_Put.f kj5 bt466.1 bt466.2.1 bt466.2.2.1 bt466.2.2.2.1 bt466.2.2.2.2.1 bt466.2.2.2.2.2.1 bt466.2.2.2.2.2.2.1 bt466.2.2.2.2.2.2.2.1 bt466.2.2.2.2.2.2.2.2.1 bt466.2.2.2.2.2.2.2.2.2).bind fun bt484 => (if bt484.2 = 0 then (quarrellaw20_ScriptCut.j1 kj5 a1 l2 bt484.1 bt484.2 ((bt484.1.length : Int) == 0)) else (quarrellaw20_ScriptCut.j1 kj5 a1 l2 bt484.1 bt484.2 true)))) = some r := by rw [if_neg (show ¬ (false = true) by decide)] at H; exact H
     clear H
     have H := H1
     clear H1
     replace H := Option.bind_eq_some_iff.mp H
     obtain ⟨⟨t466, t467, t468, t469, t470, t471, t472, t475, t478, t481⟩, A160, H⟩ := H
     replace H : ((script_Put.f kj5 t466 t467 t468 t469 t470 t471 t472 t475 t478 t481).bind fun bt484 => (if bt484.2 = 0 then (quarrellaw20_ScriptCut.j1 kj5 a1 l2 bt484.1 bt484.2 ((bt484.1.length : Int) == 0)) else (quarrellaw20_ScriptCut.j1 kj5 a1 l2 bt484.1 bt484.2 true))) = some r := H
     have A16 := Aside0.mk A160
     clear A160
     replace H := Option.bind_eq_some_iff.mp H
     obtain ⟨⟨t484, t487⟩, A170, H⟩ := H
     replace H : (if t487 = 0 then (quarrellaw20_ScriptCut.j1 kj5 a1 l2 t484 t487 ((t484.length : Int) == 0)) else (quarrellaw20_ScriptCut.j1 kj5 a1 l2 t484 t487 true)) = some r := H
     have A17 := Aside0.mk A170
     clear A170
     have HC18 := Aside0.mk H
     clear H
     have hcz19_0 : wc.cell? ⟨gb463, 0, none⟩ = some (.int .i64 a0_0) := (blk_cell BK463.out 0).trans rfl
     have hcz19_1 : wc.cell? ⟨gb463, 1, none⟩ = some (.int .i64 a0_1) := (blk_cell BK463.out 1).trans rfl
     have hcz19_2 : wc.cell? ⟨gb463, 2, none⟩ = some (.int .i64 a0_2) := (blk_cell BK463.out 2).trans rfl
     have hcz19_3 : wc.cell? ⟨gb463, 3, none⟩ = some (.int .i64 a0_3) := (blk_cell BK463.out 3).trans rfl
     have hcz19_4 : wc.cell? ⟨gb463, 4, none⟩ = some (.int .i64 a0_4) := (blk_cell BK463.out 4).trans rfl
     have hcz19_5 : wc.cell? ⟨gb463, 5, none⟩ = some (.int .i64 a0_5) := (blk_cell BK463.out 5).trans rfl
     have hcz19_6 : wc.cell? ⟨gb463, 6, none⟩ = some (.slice A0_6 l0_6.length c0_6) := (blk_cell BK463.out 6).trans rfl
     have hcz19_7 : wc.cell? ⟨gb463, 7, none⟩ = some (.slice A0_7 l0_7.length c0_7) := (blk_cell BK463.out 7).trans rfl
     have hcz19_8 : wc.cell? ⟨gb463, 8, none⟩ = some (.slice A0_8 l0_8.length c0_8) := (blk_cell BK463.out 8).trans rfl
     have hcz19_9 : wc.cell? ⟨gb463, 9, none⟩ = some (.slice A0_9 l0_9.length c0_9) := (blk_cell BK463.out 9).trans rfl
     have hfz19_0 := blk_frozen BK463.out 0
     have hfz19_1 := blk_frozen BK463.out 1
     have hfz19_2 := blk_frozen BK463.out 2
     have hfz19_3 := blk_frozen BK463.out 3
     have hfz19_4 := blk_frozen BK463.out 4
     have hfz19_5 := blk_frozen BK463.out 5
     have hfz19_6 := blk_frozen BK463.out 6
     have hfz19_7 := blk_frozen BK463.out 7
     have hfz19_8 := blk_frozen BK463.out 8
     have hfz19_9 := blk_frozen BK463.out 9
     go_upto_region 7 with (first | ((with_reducible refine gate_store (t := 28) (p := 26) rfl ?_); (try (rw [drewN_self wc]; generalize hq_ : World.drewN wc _ = wc; have n0_ := Aside0.mk (blk_at hq_ BK463.out); have n1_ := Aside0.mk (below_at hq_ HB.out); clear hq_ BK463 HB; have BK463 := n0_; have HB := n1_; clear n0_ n1_)); refine store_event (t := 28) (p := 26) (v := ?vo_w20) (w1 := (wc.setCell ⟨gb463, 9, none⟩ (.slice none 0 0))) ?hg ?ho ?hn ?hr ?_; (case ho => rfl); (case hg => rfl); (case hn => rfl); (case hr => first | (go_simp; done) | (go_simp; rfl)); intro w20 hw; have n0_ : Aside0 (w20.heap[gb463]? = some (.cells #[.int .i64 a0_0, .int .i64 a0_1, .int .i64 a0_2, .int .i64 a0_3, .int .i64 a0_4, .int .i64 a0_5, .slice A0_6 l0_6.length c0_6, .slice A0_7 l0_7.length c0_7, .slice A0_8 l0_8.length c0_8, .slice none 0 0] 34 (0, 0))) := ⟨(by rw [hw]; exact (by (with_reducible repeat (first | refine blk_drewN ?_ _ | refine blk_drew ?_ | refine blk_alloc ?_ _)); refine blk_put (cs := #[.int .i64 a0_0, .int .i64 a0_1, .int .i64 a0_2, .int .i64 a0_3, .int .i64 a0_4, .int .i64 a0_5, .slice A0_6 l0_6.length c0_6, .slice A0_7 l0_7.length c0_7, .slice A0_8 l0_8.length c0_8, .slice A0_9 l0_9.length c0_9]) ?_ 9 _ rfl; (with_reducible repeat (first | refine blk_drewN ?_ _ | refine blk_drew ?_ | refine blk_alloc ?_ _)); exact BK463.out))⟩; have n1_ : Aside0 (Below w.heap.size w w20) := ⟨(by rw [hw]; exact (by repeat (first | (with_reducible first | exact HB.out | apply below_alloc | apply pw_below_drewN | apply below_drew1 | refine below_set ?_ GE463.out) | exact HB.out)))⟩; clear hw; clear BK463; clear HB; have BK463 := n0_; have HB := n1_; clear n0_ n1_; have hcz21_0 : w20.cell? ⟨gb463, 0, none⟩ = some (.int .i64 a0_0) := (blk_cell BK463.out 0).trans rfl; have hcz21_1 : w20.cell? ⟨gb463, 1, none⟩ = some (.int .i64 a0_1) := (blk_cell BK463.out 1).trans rfl; have hcz21_2 : w20.cell? ⟨gb463, 2, none⟩ = some (.int .i64 a0_2) := (blk_cell BK463.out 2).trans rfl; have hcz21_3 : w20.cell? ⟨gb463, 3, none⟩ = some (.int .i64 a0_3) := (blk_cell BK463.out 3).trans rfl; have hcz21_4 : w20.cell? ⟨gb463, 4, none⟩ = some (.int .i64 a0_4) := (blk_cell BK463.out 4).trans rfl; have hcz21_5 : w20.cell? ⟨gb463, 5, none⟩ = some (.int .i64 a0_5) := (blk_cell BK463.out 5).trans rfl; have hcz21_6 : w20.cell? ⟨gb463, 6, none⟩ = some (.slice A0_6 l0_6.length c0_6) := (blk_cell BK463.out 6).trans rfl; have hcz21_7 : w20.cell? ⟨gb463, 7, none⟩ = some (.slice A0_7 l0_7.length c0_7) := (blk_cell BK463.out 7).trans rfl; have hcz21_8 : w20.cell? ⟨gb463, 8, none⟩ = some (.slice A0_8 l0_8.length c0_8) := (blk_cell BK463.out 8).trans rfl; have hcz21_9 : w20.cell? ⟨gb463, 9, none⟩ = some (.slice none 0 0) := (blk_cell BK463.out 9).trans rfl; have hfz21_0 := blk_frozen BK463.out 0; have hfz21_1 := blk_frozen BK463.out 1; have hfz21_2 := blk_frozen BK463.out 2; have hfz21_3 := blk_frozen BK463.out 3; have hfz21_4 := blk_frozen BK463.out 4; have hfz21_5 := blk_frozen BK463.out 5; have hfz21_6 := blk_frozen BK463.out 6; have hfz21_7 := blk_frozen BK463.out 7; have hfz21_8 := blk_frozen BK463.out 8; have hfz21_9 := blk_frozen BK463.out 9) | (go_at_call 16; (refine (quarrellaw20_Of.calls a0_0 a0_1 a0_2 a0_3 a0_4 a0_5 (fun k_ => k_ < w.heap.size) _ _ l0_6 (fun k_ => k_ < w.heap.size) _ _ l0_7 (fun k_ => k_ < w.heap.size) _ _ l0_8 (fun k_ => False) _ _ ([] : List Int) t466 t467 t468 t469 t470 t471 t472 t475 t478 t481 _ ?side1 ?side2 ?side3 ?side4 A16.out).mono ?_); (case side1 => exact Kd.V_mk HC0_6.out (Kd.F_below (Kd.C_F (Kd.heap_int .i64) HR0_6.out) (by repeat (first | (with_reducible first | exact HB.out | apply below_alloc | apply pw_below_drewN | apply below_drew1 | refine below_set ?_ GE463.out) | exact HB.out)))); (case side2 => exact Kd.V_mk HC0_7.out (Kd.F_below (Kd.C_F (Kd.heap_int .u8) HR0_7.out) (by repeat (first | (with_reducible first | exact HB.out | apply below_alloc | apply pw_below_drewN | apply below_drew1 | refine below_set ?_ GE463.out) | exact HB.out)))); (case side3 => exact Kd.V_mk HC0_8.out (Kd.F_below (Kd.C_F (Kd.heap_slice 61 (Kd.heap_slice 80 k80_heap)) HR0_8.out) (by repeat (first | (with_reducible first | exact HB.out | apply below_alloc | apply pw_below_drewN | apply below_drew1 | refine below_set ?_ GE463.out) | exact HB.out)))); (case side4 => exact Kd.V_nil _ _ _ _ _); rintro e w22 ⟨v473, v476, v479, v482, rfl, ho0, ho1, ho2, ho3, hb⟩; have n0_ := Aside0.mk (Kd.V_lower (Kd.V_mono (ok' := fun k_ => k_ ≠ gb463) ho0 (fun k_ hk_ => Or.elim hk_ (fun hs_ => Or.elim hs_ (fun hs_ => fun e_ => Nat.not_le.2 hs_ (by rw [e_]; exact GW463.out)) (fun hs_ => Or.elim hs_ (fun hs_ => fun e_ => Nat.not_le.2 hs_ (by rw [e_]; exact GW463.out)) (fun hs_ => Or.elim hs_ (fun hs_ => fun e_ => Nat.not_le.2 hs_ (by rw [e_]; exact GW463.out)) (fun hs_ => (hs_).elim)))) (fun hn_ => (Kd.freshB (g := gb463) (o := .cells #[.int .i64 a0_0, .int .i64 a0_1, .int .i64 a0_2, .int .i64 a0_3, .int .i64 a0_4, .int .i64 a0_5, .slice A0_6 l0_6.length c0_6, .slice A0_7 l0_7.length c0_7, .slice A0_8 l0_8.length c0_8, .slice none 0 0] 34 (0, 0)) (by (with_reducible repeat (first | refine blk_drewN ?_ _ | refine blk_drew ?_ | refine blk_alloc ?_ _)); exact BK463.out) k_ hn_)))) (below_size (by repeat (first | (with_reducible first | exact HB.out | apply below_alloc | apply pw_below_drewN | apply below_drew1 | refine below_set ?_ GE463.out) | exact HB.out)))); have n1_ := Aside0.mk (Kd.V_lower (Kd.V_mono (ok' := fun k_ => k_ ≠ gb463) ho1 (fun k_ hk_ => Or.elim hk_ (fun hs_ => Or.elim hs_ (fun hs_ => fun e_ => Nat.not_le.2 hs_ (by rw [e_]; exact GW463.out)) (fun hs_ => Or.elim hs_ (fun hs_ => fun e_ => Nat.not_le.2 hs_ (by rw [e_]; exact GW463.out)) (fun hs_ => Or.elim hs_ (fun hs_ => fun e_ => Nat.not_le.2 hs_ (by rw [e_]; exact GW463.out)) (fun hs_ => (hs_).elim)))) (fun hn_ => (Kd.freshB (g := gb463) (o := .cells #[.int .i64 a0_0, .int .i64 a0_1, .int .i64 a0_2, .int .i64 a0_3, .int .i64 a0_4, .int .i64 a0_5, .slice A0_6 l0_6.length c0_6, .slice A0_7 l0_7.length c0_7, .slice A0_8 l0_8.length c0_8, .slice none 0 0] 34 (0, 0)) (by (with_reducible repeat (first | refine blk_drewN ?_ _ | refine blk_drew ?_ | refine blk_alloc ?_ _)); exact BK463.out) k_ hn_)))) (below_size (by repeat (first | (with_reducible first | exact HB.out | apply below_alloc | apply pw_below_drewN | apply below_drew1 | refine below_set ?_ GE463.out) | exact HB.out)))); have n2_ := Aside0.mk (Kd.V_lower (Kd.V_mono (ok' := fun k_ => k_ ≠ gb463) ho2 (fun k_ hk_ => Or.elim hk_ (fun hs_ => Or.elim hs_ (fun hs_ => fun e_ => Nat.not_le.2 hs_ (by rw [e_]; exact GW463.out)) (fun hs_ => Or.elim hs_ (fun hs_ => fun e_ => Nat.not_le.2 hs_ (by rw [e_]; exact GW463.out)) (fun hs_ => Or.elim hs_ (fun hs_ => fun e_ => Nat.not_le.2 hs_ (by rw [e_]; exact GW463.out)) (fun hs_ => (hs_).elim)))) (fun hn_ => (Kd.freshB (g := gb463) (o := .cells #[.int .i64 a0_0, .int .i64 a0_1, .int .i64 a0_2, .int .i64 a0_3, .int .i64 a0_4, .int .i64 a0_5, .slice A0_6 l0_6.length c0_6, .slice A0_7 l0_7.length c0_7, .slice A0_8 l0_8.length c0_8, .slice none 0 0] 34 (0, 0)) (by (with_reducible repeat (first | refine blk_drewN ?_ _ | refine blk_drew ?_ | refine blk_alloc ?_ _)); exact BK463.out) k_ hn_)))) (below_size (by repeat (first | (with_reducible first | exact HB.out | apply below_alloc | apply pw_below_drewN | apply below_drew1 | refine below_set ?_ GE463.out) | exact HB.out)))); have n3_ := Aside0.mk (Kd.V_lower (Kd.V_mono (ok' := fun k_ => k_ ≠ gb463) ho3 (fun k_ hk_ => Or.elim hk_ (fun hs_ => Or.elim hs_ (fun hs_ => fun e_ => Nat.not_le.2 hs_ (by rw [e_]; exact GW463.out)) (fun hs_ => Or.elim hs_ (fun hs_ => fun e_ => Nat.not_le.2 hs_ (by rw [e_]; exact GW463.out)) (fun hs_ => Or.elim hs_ (fun hs_ => fun e_ => Nat.not_le.2 hs_ (by rw [e_]; exact GW463.out)) (fun hs_ => (hs_).elim)))) (fun hn_ => (Kd.freshB (g := gb463) (o := .cells #[.int .i64 a0_0, .int .i64 a0_1, .int .i64 a0_2, .int .i64 a0_3, .int .i64 a0_4, .int .i64 a0_5, .slice A0_6 l0_6.length c0_6, .slice A0_7 l0_7.length c0_7, .slice A0_8 l0_8.length c0_8, .slice none 0 0] 34 (0, 0)) (by (with_reducible repeat (first | refine blk_drewN ?_ _ | refine blk_drew ?_ | refine blk_alloc ?_ _)); exact BK463.out) k_ hn_)))) (below_size (by repeat (first | (with_reducible first | exact HB.out | apply below_alloc | apply pw_below_drewN | apply below_drew1 | refine below_set ?_ GE463.out) | exact HB.out)))); have n4_ := Aside0.mk (blk_below (g := gb463) (o := .cells #[.int .i64 a0_0, .int .i64 a0_1, .int .i64 a0_2, .int .i64 a0_3, .int .i64 a0_4, .int .i64 a0_5, .slice A0_6 l0_6.length c0_6, .slice A0_7 l0_7.length c0_7, .slice A0_8 l0_8.length c0_8, .slice none 0 0] 34 (0, 0)) (by (with_reducible repeat (first | refine blk_drewN ?_ _ | refine blk_drew ?_ | refine blk_alloc ?_ _)); exact BK463.out) hb); have n5_ := Aside0.mk (below_step (by repeat (first | (with_reducible first | exact HB.out | apply below_alloc | apply pw_below_drewN | apply below_drew1 | refine below_set ?_ GE463.out) | exact HB.out)) hb); clear BK463; clear HB; have HO474 := n0_; have HO477 := n1_; have HO480 := n2_; have HO483 := n3_; have BK463 := n4_; have HB := n5_; clear n0_ n1_ n2_ n3_ n4_ n5_; (try clear hb); (try clear hb2); (try clear hk); (try clear hi); (try clear ho0); (try clear ho1); (try clear ho2); (try clear ho3); obtain ⟨Ao23, co23, eo23⟩ := Kd.V_slice HO474.out; subst eo23; obtain ⟨Ao24, co24, eo24⟩ := Kd.V_slice HO477.out; subst eo24; obtain ⟨Ao25, co25, eo25⟩ := Kd.V_slice HO480.out; subst eo25; obtain ⟨Ao26, co26, eo26⟩ := Kd.V_slice HO483.out; subst eo26) | (go_at_call 15; (with_reducible refine (script_Put.calls kj5 t466 t467 t468 t469 t470 t471 _ _ t472 _ _ t475 _ _ t478 _ _ t481 t484 t487 _ ?side1 ?side2 ?side3 ?side4 ?side5 ?side6 ?side7 ?side8 A17.out).mono ?_); (case side1 => repeat (first | exact (Kd.V_reads' HO474.out).2.2 | (with_reducible refine Kd.C_alloc ?_ _) | (with_reducible refine Kd.C_drewN ?_ _) | (with_reducible refine Kd.C_drew ?_))); (case side2 => exact (Kd.V_reads' HO474.out).2.1); (case side3 => repeat (first | exact (Kd.V_reads' HO477.out).2.2 | (with_reducible refine Kd.C_alloc ?_ _) | (with_reducible refine Kd.C_drewN ?_ _) | (with_reducible refine Kd.C_drew ?_))); (case side4 => exact (Kd.V_reads' HO477.out).2.1); (case side5 => repeat (first | exact (Kd.V_reads' HO480.out).2.2 | (with_reducible refine Kd.C_alloc ?_ _) | (with_reducible refine Kd.C_drewN ?_ _) | (with_reducible refine Kd.C_drew ?_))); (case side6 => exact (Kd.V_reads' HO480.out).2.1); (case side7 => repeat (first | exact (Kd.V_reads' HO483.out).2.2 | (with_reducible refine Kd.C_alloc ?_ _) | (with_reducible refine Kd.C_drewN ?_ _) | (with_reducible refine Kd.C_drew ?_))); (case side8 => exact (Kd.V_reads' HO483.out).2.1); rintro e w27 ⟨v485, rfl, ho0, hb⟩; have n0_ := Aside0.mk (Kd.V_elder' (by (with_reducible repeat (first | apply Kd.V_alloc | apply Kd.V_drewN | apply Kd.V_drew)); exact HO474.out) (Kd.R_base ho0) hb); have n1_ := Aside0.mk (Kd.V_elder' (by (with_reducible repeat (first | apply Kd.V_alloc | apply Kd.V_drewN | apply Kd.V_drew)); exact HO477.out) (Kd.R_base ho0) hb); have n2_ := Aside0.mk (Kd.V_elder' (by (with_reducible repeat (first | apply Kd.V_alloc | apply Kd.V_drewN | apply Kd.V_drew)); exact HO480.out) (Kd.R_base ho0) hb); have n3_ := Aside0.mk (Kd.V_elder' (by (with_reducible repeat (first | apply Kd.V_alloc | apply Kd.V_drewN | apply Kd.V_drew)); exact HO483.out) (Kd.R_base ho0) hb); have n4_ := Aside0.mk (Kd.R_lower ho0 (below_size (by repeat (first | (with_reducible first | exact HB.out | apply below_alloc | apply pw_below_drewN | apply below_drew1 | refine below_set ?_ GE463.out) | exact HB.out)))); have n5_ := Aside0.mk (blk_below (g := gb463) (o := .cells #[.int .i64 a0_0, .int .i64 a0_1, .int .i64 a0_2, .int .i64 a0_3, .int .i64 a0_4, .int .i64 a0_5, .slice A0_6 l0_6.length c0_6, .slice A0_7 l0_7.length c0_7, .slice A0_8 l0_8.length c0_8, .slice none 0 0] 34 (0, 0)) (by (with_reducible repeat (first | refine blk_drewN ?_ _ | refine blk_drew ?_ | refine blk_alloc ?_ _)); exact BK463.out) hb); have n6_ := Aside0.mk (below_step (by repeat (first | (with_reducible first | exact HB.out | apply below_alloc | apply pw_below_drewN | apply below_drew1 | refine below_set ?_ GE463.out) | exact HB.out)) hb); clear HO474; clear HO477; clear HO480; clear HO483; clear BK463; clear HB; have HO474 := n0_; have HO477 := n1_; have HO480 := n2_; have HO483 := n3_; have HO486 := n4_; have BK463 := n5_; have HB := n6_; clear n0_ n1_ n2_ n3_ n4_ n5_ n6_; (try clear hb); (try clear hb2); (try clear hk); (try clear hi); (try clear ho0)))
     (try simp only [Act.put, List.setIfInBounds_toArray, List.set_cons_zero, List.set_cons_succ])
     go_cut [39] (fun v39 wc => ∃ (kq : Nat) (x39_17 : Bool), v39 = .bool x39_17 ∧ Aside0 (quarrellaw20_ScriptCut.j1 kq a1 l2 t484 t487 x39_17 = some r) ∧ Aside0 (kq ≤ kj5) ∧ Aside0 (Kd.R (Kd.int .u8) 5 wc w.heap.size (fun _ => True) v485 t484) ∧ Aside0 (wc.heap[gb463]? = some (.cells #[.int .i64 a0_0, .int .i64 a0_1, .int .i64 a0_2, .int .i64 a0_3, .int .i64 a0_4, .int .i64 a0_5, (.slice A0_6 l0_6.length c0_6), (.slice A0_7 l0_7.length c0_7), (.slice A0_8 l0_8.length c0_8), (.slice none 0 0)] 34 (0, 0))) ∧ Aside0 (Below w.heap.size w wc))
     case first =>
      have H := HC18.out
      clear HC18
      by_cases c28 : t487 = 0
      ·rw [if_pos c28] at H
       have c28b0 : (t487 == 0) = true := beq_iff_eq.mpr c28
       have c28b1 : (t487 != 0) = false := bne_eq_false_iff_eq.mpr c28
       clear c28
       (first | rw [c28b0] | (simp only [i64_w, i32_w]; rw [c28b0]) | skip)
       have H' := Aside0.mk H
       clear H
       obtain ⟨Ao29, co29, eo29⟩ := Kd.R_slice HO486.out
       subst eo29
       go_wp2
       repeat (go_quiet (fail); try go_wp2)
       go_meet
       case rel => exact ⟨_, (((t484.length : Int) == 0)), (by first | rfl | (simp; done) | (simp [*]; done)), H', ⟨by have := HJ5.out; first | omega | exact Nat.le_refl _⟩, ⟨by (with_reducible repeat (first | apply Kd.R_alloc | apply Kd.R_drewN | apply Kd.R_drew)); exact HO486.out⟩, ⟨by (with_reducible repeat (first | refine blk_drewN ?_ _ | refine blk_drew ?_ | refine blk_alloc ?_ _)); exact BK463.out⟩, ⟨by repeat (first | (with_reducible first | exact HB.out | apply below_alloc | apply pw_below_drewN | apply below_drew1 | refine below_set ?_ GE463.out) | exact HB.out)⟩⟩
      ·rw [if_neg c28] at H
       have c28b0 : (t487 == 0) = false := beq_eq_false_iff_ne.mpr c28
       have c28b1 : (t487 != 0) = true := bne_iff_ne.mpr c28
       (first | rw [c28b0] | (simp only [i64_w, i32_w]; rw [c28b0]) | skip)
       have H' := Aside0.mk H
       clear H
       go_wp2
       repeat (go_quiet (fail); try go_wp2)
       go_meet
       case rel => exact ⟨_, (true), (by first | rfl | (simp; done) | (simp [*]; done)), H', ⟨by have := HJ5.out; first | omega | exact Nat.le_refl _⟩, ⟨by (with_reducible repeat (first | apply Kd.R_alloc | apply Kd.R_drewN | apply Kd.R_drew)); exact HO486.out⟩, ⟨by (with_reducible repeat (first | refine blk_drewN ?_ _ | refine blk_drew ?_ | refine blk_alloc ?_ _)); exact BK463.out⟩, ⟨by repeat (first | (with_reducible first | exact HB.out | apply below_alloc | apply pw_below_drewN | apply below_drew1 | refine below_set ?_ GE463.out) | exact HB.out)⟩⟩
     case rest =>
      clear HC18
      try clear c1
      try clear c2
      try clear p2
      try clear c5
      try clear c6
      try clear c10
      try clear c15
      try clear c28
      try clear c28b0
      try clear c28b1
      try clear hcz11_0
      try clear hcz11_1
      try clear hcz11_2
      try clear hcz11_3
      try clear hcz11_4
      try clear hcz11_5
      try clear hcz11_6
      try clear hcz11_7
      try clear hcz11_8
      try clear hcz11_9
      try clear hcz13_0
      try clear hcz13_1
      try clear hcz13_2
      try clear hcz13_3
      try clear hcz13_4
      try clear hcz13_5
      try clear hcz13_6
      try clear hcz13_7
      try clear hcz13_8
      try clear hcz13_9
      try clear hcz19_0
      try clear hcz19_1
      try clear hcz19_2
      try clear hcz19_3
      try clear hcz19_4
      try clear hcz19_5
      try clear hcz19_6
      try clear hcz19_7
      try clear hcz19_8
      try clear hcz19_9
      try clear hcz21_0
      try clear hcz21_1
      try clear hcz21_2
      try clear hcz21_3
      try clear hcz21_4
      try clear hcz21_5
      try clear hcz21_6
      try clear hcz21_7
      try clear hcz21_8
      try clear hcz21_9
      try clear hfz11_0
      try clear hfz11_1
      try clear hfz11_2
      try clear hfz11_3
      try clear hfz11_4
      try clear hfz11_5
      try clear hfz11_6
      try clear hfz11_7
      try clear hfz11_8
      try clear hfz11_9
      try clear hfz13_0
      try clear hfz13_1
      try clear hfz13_2
      try clear hfz13_3
      try clear hfz13_4
      try clear hfz13_5
      try clear hfz13_6
      try clear hfz13_7
      try clear hfz13_8
      try clear hfz13_9
      try clear hfz19_0
      try clear hfz19_1
      try clear hfz19_2
      try clear hfz19_3
      try clear hfz19_4
      try clear hfz19_5
      try clear hfz19_6
      try clear hfz19_7
      try clear hfz19_8
      try clear hfz19_9
      try clear hfz21_0
      try clear hfz21_1
      try clear hfz21_2
      try clear hfz21_3
      try clear hfz21_4
      try clear hfz21_5
      try clear hfz21_6
      try clear hfz21_7
      try clear hfz21_8
      try clear hfz21_9
      try clear p2
      obtain ⟨kq, x39_17, rfl, HA, HJ17, HO_7, BK463, HB⟩ := hcut
      cases kq with
      | zero => exact absurd HA.out (by simp [quarrellaw20_ScriptCut.j1])
      | succ kj17 =>
       have H := HA.out
       clear HA
       simp only [quarrellaw20_ScriptCut.j1] at H
       by_cases c30 : x39_17 = true
       ·subst c30
        have H1 : (some (t487 == 1)) = some r := by rw [if_pos rfl] at H; exact H
        clear H
        have H := H1
        clear H1
        obtain rfl := Option.some.inj H
        go_wp2
        repeat (go_quiet (fail); try go_wp2)
        go_ret
        exact ⟨by first | rfl | (simp [errW_none, errW_some] <;> rfl) | (simp [*, errW_none, errW_some] <;> rfl), by repeat (first | (with_reducible first | exact HB.out | apply below_alloc | apply pw_below_drewN | apply below_drew1 | refine below_set ?_ GE463.out) | exact HB.out)⟩
       ·replace c30 := Bool.eq_false_iff.mpr c30
        subst c30
        have H1 : (if (t484.length : Int) = 0 then (none) else (if 0 ≤ (Int.tmod (wrap64 (a1)) (t484.length : Int)) then (if (Int.tmod (wrap64 (a1)) (t484.length : Int)) ≤ (t484.length : Int) then ((script_Get.f kj17 (t484.take ((Int.tmod (wrap64 (a1)) (t484.length : Int)) : Int).toNat)).bind fun bt492 => (if bt492.2.2.2.2.2.2.2.2.2.2.1 = (Int.tmod (wrap64 (a1)) (t484.length : Int)) then (quarrellaw20_ScriptCut.j2 kj17 l2 t484 (bt492.2.2.2.2.2.2.2.2.2.2.2 != 9)) else (quarrellaw20_ScriptCut.j2 kj17 l2 t484 true))) else (none)) else (none))) = some r := by rw [if_neg (show ¬ (false = true) by decide)] at H; exact H
        clear H
        have H := H1
        clear H1
        by_cases c31 : (t484.length : Int) = 0
        ·rw [if_pos c31] at H
         exact absurd H (by simp)
        ·rw [if_neg c31] at H
         have c31b0 : ((t484.length : Int) == 0) = false := beq_eq_false_iff_ne.mpr c31
         have c31b1 : ((t484.length : Int) != 0) = true := bne_iff_ne.mpr c31
         have c31b2 : ¬ (t484 = []) := fun h_ => c31 (by rw [h_]; rfl)
         obtain ⟨ji32, hji32⟩ : ∃ j_ : Int, (Int.tmod (wrap64 (a1)) (t484.length : Int)) = j_ := ⟨_, rfl⟩
         replace H : (if 0 ≤ (ji32) then (if (ji32) ≤ (t484.length : Int) then ((script_Get.f kj17 (t484.take ((ji32) : Int).toNat)).bind fun bt492 => (if bt492.2.2.2.2.2.2.2.2.2.2.1 = (ji32) then (quarrellaw20_ScriptCut.j2 kj17 l2 t484 (bt492.2.2.2.2.2.2.2.2.2.2.2 != 9)) else (quarrellaw20_ScriptCut.j2 kj17 l2 t484 true))) else (none)) else (none)) = some r := by first | (rw [hji32] at H; exact H) | (simp only [hji32] at H ⊢; exact H)
         by_cases c33 : 0 ≤ (ji32)
         ·rw [if_pos c33] at H
          have c33b0 := eq_true c33
          have c33b1 : decide (0 ≤ (ji32)) = true := decide_eq_true c33
          clear c33
          by_cases c34 : (ji32) ≤ (t484.length : Int)
          ·rw [if_pos c34] at H
           have c34b0 := eq_true c34
           have c34b1 : decide ((ji32) ≤ (t484.length : Int)) = true := decide_eq_true c34
           clear c34
           obtain ⟨y488, hy488⟩ : ∃ y_ : List Int, y_ = (t484.take ((ji32) : Int).toNat) := ⟨_, rfl⟩
           replace H : ((script_Get.f kj17 y488).bind fun bt492 => (if bt492.2.2.2.2.2.2.2.2.2.2.1 = (ji32) then (quarrellaw20_ScriptCut.j2 kj17 l2 t484 (bt492.2.2.2.2.2.2.2.2.2.2.2 != 9)) else (quarrellaw20_ScriptCut.j2 kj17 l2 t484 true))) = some r := by first | (rw [hy488]; with_reducible exact H) | (have H2_ := (Option.bind_some _ _).symm.trans H; rw [hy488]; with_reducible exact H2_) | (have H2_ := (Option.bind_some _ _).symm.trans H; with_reducible exact H2_) | with_reducible exact H | (rw [hy488]; exact H) | exact H
           have Ny488 := Aside0.mk hy488
           clear hy488
           replace H := Option.bind_eq_some_iff.mp H
           obtain ⟨⟨t492, t493, t494, t495, t496, t497, t498, t501, t504, t507, t510, t511⟩, A350, H⟩ := H
           replace H : (if t510 = (ji32) then (quarrellaw20_ScriptCut.j2 kj17 l2 t484 (t511 != 9)) else (quarrellaw20_ScriptCut.j2 kj17 l2 t484 true)) = some r := H
           have A35 := Aside0.mk A350
           clear A350
           have HC36 := Aside0.mk H
           clear H
           obtain ⟨Ao37, co37, eo37⟩ := Kd.R_slice HO_7.out
           subst eo37
           have q38 : ((ji32) : Int) ≤ ((t484.length : Int) : Int) := of_decide_eq_true (by first | (with_reducible assumption) | assumption)
           obtain ⟨i038, hi038, _, hsz38, _⟩ := info_parts info5
           have hroom38 : t484.length ≤ co37 := (Kd.R_reads' HO_7.out).2.1
           have hC38 : Kd.C (Kd.int .u8) _ Ao37 t484.length t484 := (Kd.R_reads' HO_7.out).2.2
           have hcut38 := cut_to (P := Try.prog) 22 5 .i64 Try.underlying22 hi038 Ao37 t484.length co37 (ji32) (of_decide_eq_true (by first | (with_reducible assumption) | assumption)) q38 hroom38
           have hr38 := Kd.C_take (m := ((ji32) : Int).toNat) hC38 (by omega)
           have hy38 : y488.length = ((ji32) : Int).toNat := (by rw [Ny488.out, List.length_take]; omega)
           rw [← Ny488.out] at hr38
           rw [← hy38] at hcut38
           have HR491 := Aside0.mk hr38
           have HC491 := Aside0.mk (show y488.length ≤ co37 from by omega)
           clear hr38 hC38 hroom38 hi038 hsz38
           have KY38 := Aside0.mk hy38
           clear hy38
           have KL38 := Aside0.mk (show ((ji32) : Int).toNat ≤ t484.length from by omega)
           replace q38 := eq_true q38
           go_upto_region 11 with (first | (go_at_call 10; (with_reducible refine (script_Get.calls kj17 _ _ y488 t492 t493 t494 t495 t496 t497 t498 t501 t504 t507 t510 t511 _ ?side1 ?side2 A35.out).mono ?_); (case side1 => repeat (first | exact (by repeat (first | (with_reducible exact HR491.out) | (with_reducible refine Kd.C_alloc ?_ _) | (with_reducible refine Kd.C_drewN ?_ _) | (with_reducible refine Kd.C_drew ?_) | exact HR491.out)) | (with_reducible refine Kd.C_alloc ?_ _) | (with_reducible refine Kd.C_drewN ?_ _) | (with_reducible refine Kd.C_drew ?_))); (case side2 => exact HC491.out); rintro e w39 ⟨v499, v502, v505, v508, rfl, ho0, ho1, ho2, ho3, hb⟩; have n0_ := Aside0.mk (Kd.R_elder' (by (with_reducible repeat (first | apply Kd.R_alloc | apply Kd.R_drewN | apply Kd.R_drew)); exact HO_7.out) (Kd.R_base ho1) hb); have n1_ := Aside0.mk (Kd.R_lower ho0 (below_size (by repeat (first | (with_reducible first | exact HB.out | apply below_alloc | apply pw_below_drewN | apply below_drew1 | refine below_set ?_ GE463.out) | exact HB.out)))); have n2_ := Aside0.mk (Kd.R_lower (Kd.R_new' ho1 (Kd.R_lt (by (with_reducible repeat (first | apply Kd.R_alloc | apply Kd.R_drewN | apply Kd.R_drew)); exact HO_7.out))) (below_size (by repeat (first | (with_reducible first | exact HB.out | apply below_alloc | apply pw_below_drewN | apply below_drew1 | refine below_set ?_ GE463.out) | exact HB.out)))); have n3_ := Aside0.mk (Kd.R_lower ho2 (below_size (by repeat (first | (with_reducible first | exact HB.out | apply below_alloc | apply pw_below_drewN | apply below_drew1 | refine below_set ?_ GE463.out) | exact HB.out)))); have n4_ := Aside0.mk (Kd.R_lower ho3 (below_size (by repeat (first | (with_reducible first | exact HB.out | apply below_alloc | apply pw_below_drewN | apply below_drew1 | refine below_set ?_ GE463.out) | exact HB.out)))); have n5_ := Aside0.mk (blk_below (g := gb463) (o := .cells #[.int .i64 a0_0, .int .i64 a0_1, .int .i64 a0_2, .int .i64 a0_3, .int .i64 a0_4, .int .i64 a0_5, .slice A0_6 l0_6.length c0_6, .slice A0_7 l0_7.length c0_7, .slice A0_8 l0_8.length c0_8, .slice none 0 0] 34 (0, 0)) (by (with_reducible repeat (first | refine blk_drewN ?_ _ | refine blk_drew ?_ | refine blk_alloc ?_ _)); exact BK463.out) hb); have n6_ := Aside0.mk (Kd.C_below (by repeat (first | (with_reducible exact HR491.out) | (with_reducible refine Kd.C_alloc ?_ _) | (with_reducible refine Kd.C_drewN ?_ _) | (with_reducible refine Kd.C_drew ?_) | exact HR491.out)) hb); have n7_ := Aside0.mk (below_step (by repeat (first | (with_reducible first | exact HB.out | apply below_alloc | apply pw_below_drewN | apply below_drew1 | refine below_set ?_ GE463.out) | exact HB.out)) hb); clear HO_7; clear BK463; clear HR491; clear HB; have HO_7 := n0_; have HO500 := n1_; have HO503 := n2_; have HO506 := n3_; have HO509 := n4_; have BK463 := n5_; have HR491 := n6_; have HB := n7_; clear n0_ n1_ n2_ n3_ n4_ n5_ n6_ n7_; (try clear hb); (try clear hb2); (try clear hk); (try clear hi); (try clear ho0); (try clear ho1); (try clear ho2); (try clear ho3)) | ((with_reducible refine gate_dst (N := 10) rfl ?_); (try (refine gate_guard (by rfl) ?_; dsimp only)); refine box_event ?hg (N := 10) ?hd (cs := #[.int .i64 0, .int .i64 0, .int .i64 0, .int .i64 0, .int .i64 0, .int .i64 0, .slice none 0 0, .slice none 0 0, .slice none 0 0, .slice none 0 0]) (t := 30) ?hr ?_; (case hd => rfl); (case hg => rfl); (case hr => first | (go_simp; done) | (go_simp; rfl)); intro gb512 hg w40 hbox hb; have n0_ := Aside0.mk (Kd.R_below (by (with_reducible repeat (first | apply Kd.R_alloc | apply Kd.R_drewN | apply Kd.R_drew)); exact HO_7.out) hb); have n1_ := Aside0.mk (Kd.R_below (by (with_reducible repeat (first | apply Kd.R_alloc | apply Kd.R_drewN | apply Kd.R_drew)); exact HO500.out) hb); have n2_ := Aside0.mk (Kd.R_below (by (with_reducible repeat (first | apply Kd.R_alloc | apply Kd.R_drewN | apply Kd.R_drew)); exact HO503.out) hb); have n3_ := Aside0.mk (Kd.R_below (by (with_reducible repeat (first | apply Kd.R_alloc | apply Kd.R_drewN | apply Kd.R_drew)); exact HO506.out) hb); have n4_ := Aside0.mk (Kd.R_below (by (with_reducible repeat (first | apply Kd.R_alloc | apply Kd.R_drewN | apply Kd.R_drew)); exact HO509.out) hb); have n5_ := Aside0.mk (blk_below (g := gb463) (o := .cells #[.int .i64 a0_0, .int .i64 a0_1, .int .i64 a0_2, .int .i64 a0_3, .int .i64 a0_4, .int .i64 a0_5, .slice A0_6 l0_6.length c0_6, .slice A0_7 l0_7.length c0_7, .slice A0_8 l0_8.length c0_8, .slice none 0 0] 34 (0, 0)) (by (with_reducible repeat (first | refine blk_drewN ?_ _ | refine blk_drew ?_ | refine blk_alloc ?_ _)); exact BK463.out) hb); have n6_ := Aside0.mk (Kd.C_below (by repeat (first | (with_reducible exact HR491.out) | (with_reducible refine Kd.C_alloc ?_ _) | (with_reducible refine Kd.C_drewN ?_ _) | (with_reducible refine Kd.C_drew ?_) | exact HR491.out)) hb); have n7_ := Aside0.mk (below_step (by repeat (first | (with_reducible first | exact HB.out | apply below_alloc | apply pw_below_drewN | apply below_drew1 | refine below_set ?_ GE463.out) | exact HB.out)) hb); have n8_ := Aside0.mk (hbox); have n9_ := Aside0.mk ((by rw [hg]; exact (below_size (by repeat (first | (with_reducible first | exact HB.out | apply below_alloc | apply pw_below_drewN | apply below_drew1 | refine below_set ?_ GE463.out) | exact HB.out))) : w.heap.size ≤ gb512)); have n10_ := Aside0.mk ((by rw [hg]; exact (below_size (by repeat (first | (with_reducible first | exact HB.out | apply below_alloc | apply pw_below_drewN | apply below_drew1 | refine below_set ?_ GE463.out) | exact HB.out))) : w.heap.size ≤ gb512)); have n11_ := Aside0.mk ((by rw [hg]; exact Nat.ne_of_lt (blk_lt (g := gb463) (o := .cells #[.int .i64 a0_0, .int .i64 a0_1, .int .i64 a0_2, .int .i64 a0_3, .int .i64 a0_4, .int .i64 a0_5, .slice A0_6 l0_6.length c0_6, .slice A0_7 l0_7.length c0_7, .slice A0_8 l0_8.length c0_8, .slice none 0 0] 34 (0, 0)) (by (with_reducible repeat (first | refine blk_drewN ?_ _ | refine blk_drew ?_ | refine blk_alloc ?_ _)); exact BK463.out)) : gb463 ≠ gb512)); have n12_ := Aside0.mk ((by rw [hg]; exact Nat.ne_of_gt (blk_lt (g := gb463) (o := .cells #[.int .i64 a0_0, .int .i64 a0_1, .int .i64 a0_2, .int .i64 a0_3, .int .i64 a0_4, .int .i64 a0_5, .slice A0_6 l0_6.length c0_6, .slice A0_7 l0_7.length c0_7, .slice A0_8 l0_8.length c0_8, .slice none 0 0] 34 (0, 0)) (by (with_reducible repeat (first | refine blk_drewN ?_ _ | refine blk_drew ?_ | refine blk_alloc ?_ _)); exact BK463.out)) : gb512 ≠ gb463)); clear HO_7; clear HO500; clear HO503; clear HO506; clear HO509; clear BK463; clear HR491; clear HB; have HO_7 := n0_; have HO500 := n1_; have HO503 := n2_; have HO506 := n3_; have HO509 := n4_; have BK463 := n5_; have HR491 := n6_; have HB := n7_; have BK512 := n8_; have GW512 := n9_; have GE512 := n10_; have NB463_512 := n11_; have NB512_463 := n12_; clear n0_ n1_ n2_ n3_ n4_ n5_ n6_ n7_ n8_ n9_ n10_ n11_ n12_; clear hb hbox hg; have hnb41 := NB512_463.out; have hnc41 := NB463_512.out; have hcz42_0 : w40.cell? ⟨gb512, 0, none⟩ = some (.int .i64 0) := (blk_cell BK512.out 0).trans rfl; have hcz42_1 : w40.cell? ⟨gb512, 1, none⟩ = some (.int .i64 0) := (blk_cell BK512.out 1).trans rfl; have hcz42_2 : w40.cell? ⟨gb512, 2, none⟩ = some (.int .i64 0) := (blk_cell BK512.out 2).trans rfl; have hcz42_3 : w40.cell? ⟨gb512, 3, none⟩ = some (.int .i64 0) := (blk_cell BK512.out 3).trans rfl; have hcz42_4 : w40.cell? ⟨gb512, 4, none⟩ = some (.int .i64 0) := (blk_cell BK512.out 4).trans rfl; have hcz42_5 : w40.cell? ⟨gb512, 5, none⟩ = some (.int .i64 0) := (blk_cell BK512.out 5).trans rfl; have hcz42_6 : w40.cell? ⟨gb512, 6, none⟩ = some (.slice none 0 0) := (blk_cell BK512.out 6).trans rfl; have hcz42_7 : w40.cell? ⟨gb512, 7, none⟩ = some (.slice none 0 0) := (blk_cell BK512.out 7).trans rfl; have hcz42_8 : w40.cell? ⟨gb512, 8, none⟩ = some (.slice none 0 0) := (blk_cell BK512.out 8).trans rfl; have hcz42_9 : w40.cell? ⟨gb512, 9, none⟩ = some (.slice none 0 0) := (blk_cell BK512.out 9).trans rfl; have hfz42_0 := blk_frozen BK512.out 0; have hfz42_1 := blk_frozen BK512.out 1; have hfz42_2 := blk_frozen BK512.out 2; have hfz42_3 := blk_frozen BK512.out 3; have hfz42_4 := blk_frozen BK512.out 4; have hfz42_5 := blk_frozen BK512.out 5; have hfz42_6 := blk_frozen BK512.out 6; have hfz42_7 := blk_frozen BK512.out 7; have hfz42_8 := blk_frozen BK512.out 8; have hfz42_9 := blk_frozen BK512.out 9; obtain ⟨Ao43, co43, eo43⟩ := Kd.R_slice HO500.out; subst eo43; obtain ⟨Ao44, co44, eo44⟩ := Kd.R_slice HO503.out; subst eo44; obtain ⟨Ao45, co45, eo45⟩ := Kd.R_slice HO506.out; subst eo45; obtain ⟨Ao46, co46, eo46⟩ := Kd.R_slice HO509.out; subst eo46))
           (try simp only [Act.put, List.setIfInBounds_toArray, List.set_cons_zero, List.set_cons_succ])
           go_cut [61] (fun v61 wc => ∃ (kq : Nat) (x61_35 : Bool), v61 = .bool x61_35 ∧ Aside0 (quarrellaw20_ScriptCut.j2 kq l2 t484 x61_35 = some r) ∧ Aside0 (kq ≤ kj17) ∧ Aside0 (Kd.R (Kd.int .u8) 5 wc w.heap.size (fun k_ => some k_ ≠ ((.slice Ao44 t501.length co44) : Value).ownBlock) (.slice Ao37 t484.length co37) t484) ∧ Aside0 (Kd.R (Kd.int .i64) 2 wc w.heap.size (fun _ => True) (.slice Ao43 t498.length co43) t498) ∧ Aside0 (Kd.R (Kd.int .u8) 5 wc w.heap.size (fun k_ => some k_ ≠ ((.slice Ao37 t484.length co37) : Value).ownBlock) (.slice Ao44 t501.length co44) t501) ∧ Aside0 (Kd.R (Kd.slice 61 (Kd.slice 80 k80)) 60 wc w.heap.size (fun _ => True) (.slice Ao45 t504.length co45) t504) ∧ Aside0 (Kd.R (Kd.int .i64) 3 wc w.heap.size (fun _ => True) (.slice Ao46 t507.length co46) t507) ∧ Aside0 (wc.heap[gb463]? = some (.cells #[.int .i64 a0_0, .int .i64 a0_1, .int .i64 a0_2, .int .i64 a0_3, .int .i64 a0_4, .int .i64 a0_5, (.slice A0_6 l0_6.length c0_6), (.slice A0_7 l0_7.length c0_7), (.slice A0_8 l0_8.length c0_8), (.slice none 0 0)] 34 (0, 0))) ∧ Aside0 (wc.heap[gb512]? = some (.cells #[.int .i64 t492, .int .i64 t493, .int .i64 t494, .int .i64 t495, .int .i64 t496, .int .i64 t497, (.slice Ao43 t498.length co43), (.slice Ao44 t501.length co44), (.slice Ao45 t504.length co45), (.slice Ao46 t507.length co46)] 30 (0, 0))) ∧ Aside0 (Below w.heap.size w wc))
           case first =>
            have H := HC36.out
            clear HC36
            by_cases c47 : t510 = (ji32)
            ·rw [if_pos c47] at H
             have c47b0 : (t510 == (ji32)) = true := beq_iff_eq.mpr c47
             have c47b1 : (t510 != (ji32)) = false := bne_eq_false_iff_eq.mpr c47
             clear c47
             (first | rw [c47b0] | (simp only [i64_w, i32_w]; rw [c47b0]) | skip)
             have H' := Aside0.mk H
             clear H
             go_wp2
             repeat (go_quiet (fail); try go_wp2)
             go_meet
             case rel => exact ⟨_, ((t511 != 9)), (by first | rfl | (simp; done) | (simp [*]; done)), H', ⟨by have := HJ5.out; have := HJ17.out; first | omega | exact Nat.le_refl _⟩, ⟨by (with_reducible repeat (first | apply Kd.R_alloc | apply Kd.R_drewN | apply Kd.R_drew)); exact Kd.R_mono (Kd.R_far (p := ⟨gb512, 9, none⟩) (Kd.R_far (p := ⟨gb512, 8, none⟩) (Kd.R_far (p := ⟨gb512, 7, none⟩) (Kd.R_far (p := ⟨gb512, 6, none⟩) (Kd.R_far (p := ⟨gb512, 5, none⟩) (Kd.R_far (p := ⟨gb512, 4, none⟩) (Kd.R_far (p := ⟨gb512, 3, none⟩) (Kd.R_far (p := ⟨gb512, 2, none⟩) (Kd.R_far (p := ⟨gb512, 1, none⟩) (Kd.R_far (p := ⟨gb512, 0, none⟩) (Kd.R_types HO_7.out BK512.out (by decide)) (fun _ hk => hk.2) (.int .i64 t492)) (fun _ hk => hk.2) (.int .i64 t493)) (fun _ hk => hk.2) (.int .i64 t494)) (fun _ hk => hk.2) (.int .i64 t495)) (fun _ hk => hk.2) (.int .i64 t496)) (fun _ hk => hk.2) (.int .i64 t497)) (fun _ hk => hk.2) (.slice Ao43 t498.length co43)) (fun _ hk => hk.2) (.slice Ao44 t501.length co44)) (fun _ hk => hk.2) (.slice Ao45 t504.length co45)) (fun _ hk => hk.2) (.slice Ao46 t507.length co46)) (fun _ hk => hk.1.2)⟩, ⟨by (with_reducible repeat (first | apply Kd.R_alloc | apply Kd.R_drewN | apply Kd.R_drew)); exact Kd.R_mono (Kd.R_far (p := ⟨gb512, 9, none⟩) (Kd.R_far (p := ⟨gb512, 8, none⟩) (Kd.R_far (p := ⟨gb512, 7, none⟩) (Kd.R_far (p := ⟨gb512, 6, none⟩) (Kd.R_far (p := ⟨gb512, 5, none⟩) (Kd.R_far (p := ⟨gb512, 4, none⟩) (Kd.R_far (p := ⟨gb512, 3, none⟩) (Kd.R_far (p := ⟨gb512, 2, none⟩) (Kd.R_far (p := ⟨gb512, 1, none⟩) (Kd.R_far (p := ⟨gb512, 0, none⟩) (Kd.R_types HO500.out BK512.out (by decide)) (fun _ hk => hk.2) (.int .i64 t492)) (fun _ hk => hk.2) (.int .i64 t493)) (fun _ hk => hk.2) (.int .i64 t494)) (fun _ hk => hk.2) (.int .i64 t495)) (fun _ hk => hk.2) (.int .i64 t496)) (fun _ hk => hk.2) (.int .i64 t497)) (fun _ hk => hk.2) (.slice Ao43 t498.length co43)) (fun _ hk => hk.2) (.slice Ao44 t501.length co44)) (fun _ hk => hk.2) (.slice Ao45 t504.length co45)) (fun _ hk => hk.2) (.slice Ao46 t507.length co46)) (fun _ hk => trivial)⟩, ⟨by (with_reducible repeat (first | apply Kd.R_alloc | apply Kd.R_drewN | apply Kd.R_drew)); exact Kd.R_mono (Kd.R_far (p := ⟨gb512, 9, none⟩) (Kd.R_far (p := ⟨gb512, 8, none⟩) (Kd.R_far (p := ⟨gb512, 7, none⟩) (Kd.R_far (p := ⟨gb512, 6, none⟩) (Kd.R_far (p := ⟨gb512, 5, none⟩) (Kd.R_far (p := ⟨gb512, 4, none⟩) (Kd.R_far (p := ⟨gb512, 3, none⟩) (Kd.R_far (p := ⟨gb512, 2, none⟩) (Kd.R_far (p := ⟨gb512, 1, none⟩) (Kd.R_far (p := ⟨gb512, 0, none⟩) (Kd.R_types HO503.out BK512.out (by decide)) (fun _ hk => hk.2) (.int .i64 t492)) (fun _ hk => hk.2) (.int .i64 t493)) (fun _ hk => hk.2) (.int .i64 t494)) (fun _ hk => hk.2) (.int .i64 t495)) (fun _ hk => hk.2) (.int .i64 t496)) (fun _ hk => hk.2) (.int .i64 t497)) (fun _ hk => hk.2) (.slice Ao43 t498.length co43)) (fun _ hk => hk.2) (.slice Ao44 t501.length co44)) (fun _ hk => hk.2) (.slice Ao45 t504.length co45)) (fun _ hk => hk.2) (.slice Ao46 t507.length co46)) (fun _ hk => hk.1.2)⟩, ⟨by (with_reducible repeat (first | apply Kd.R_alloc | apply Kd.R_drewN | apply Kd.R_drew)); exact Kd.R_mono (Kd.R_far (p := ⟨gb512, 9, none⟩) (Kd.R_far (p := ⟨gb512, 8, none⟩) (Kd.R_far (p := ⟨gb512, 7, none⟩) (Kd.R_far (p := ⟨gb512, 6, none⟩) (Kd.R_far (p := ⟨gb512, 5, none⟩) (Kd.R_far (p := ⟨gb512, 4, none⟩) (Kd.R_far (p := ⟨gb512, 3, none⟩) (Kd.R_far (p := ⟨gb512, 2, none⟩) (Kd.R_far (p := ⟨gb512, 1, none⟩) (Kd.R_far (p := ⟨gb512, 0, none⟩) (Kd.R_types HO506.out BK512.out (by decide)) (fun _ hk => hk.2) (.int .i64 t492)) (fun _ hk => hk.2) (.int .i64 t493)) (fun _ hk => hk.2) (.int .i64 t494)) (fun _ hk => hk.2) (.int .i64 t495)) (fun _ hk => hk.2) (.int .i64 t496)) (fun _ hk => hk.2) (.int .i64 t497)) (fun _ hk => hk.2) (.slice Ao43 t498.length co43)) (fun _ hk => hk.2) (.slice Ao44 t501.length co44)) (fun _ hk => hk.2) (.slice Ao45 t504.length co45)) (fun _ hk => hk.2) (.slice Ao46 t507.length co46)) (fun _ hk => trivial)⟩, ⟨by (with_reducible repeat (first | apply Kd.R_alloc | apply Kd.R_drewN | apply Kd.R_drew)); exact Kd.R_mono (Kd.R_far (p := ⟨gb512, 9, none⟩) (Kd.R_far (p := ⟨gb512, 8, none⟩) (Kd.R_far (p := ⟨gb512, 7, none⟩) (Kd.R_far (p := ⟨gb512, 6, none⟩) (Kd.R_far (p := ⟨gb512, 5, none⟩) (Kd.R_far (p := ⟨gb512, 4, none⟩) (Kd.R_far (p := ⟨gb512, 3, none⟩) (Kd.R_far (p := ⟨gb512, 2, none⟩) (Kd.R_far (p := ⟨gb512, 1, none⟩) (Kd.R_far (p := ⟨gb512, 0, none⟩) (Kd.R_types HO509.out BK512.out (by decide)) (fun _ hk => hk.2) (.int .i64 t492)) (fun _ hk => hk.2) (.int .i64 t493)) (fun _ hk => hk.2) (.int .i64 t494)) (fun _ hk => hk.2) (.int .i64 t495)) (fun _ hk => hk.2) (.int .i64 t496)) (fun _ hk => hk.2) (.int .i64 t497)) (fun _ hk => hk.2) (.slice Ao43 t498.length co43)) (fun _ hk => hk.2) (.slice Ao44 t501.length co44)) (fun _ hk => hk.2) (.slice Ao45 t504.length co45)) (fun _ hk => hk.2) (.slice Ao46 t507.length co46)) (fun _ hk => trivial)⟩, ⟨by (with_reducible repeat (first | refine blk_drewN ?_ _ | refine blk_drew ?_ | refine blk_alloc ?_ _)); refine blk_far ?_ NB463_512.out _; (with_reducible repeat (first | refine blk_drewN ?_ _ | refine blk_drew ?_ | refine blk_alloc ?_ _)); refine blk_far ?_ NB463_512.out _; (with_reducible repeat (first | refine blk_drewN ?_ _ | refine blk_drew ?_ | refine blk_alloc ?_ _)); refine blk_far ?_ NB463_512.out _; (with_reducible repeat (first | refine blk_drewN ?_ _ | refine blk_drew ?_ | refine blk_alloc ?_ _)); refine blk_far ?_ NB463_512.out _; (with_reducible repeat (first | refine blk_drewN ?_ _ | refine blk_drew ?_ | refine blk_alloc ?_ _)); refine blk_far ?_ NB463_512.out _; (with_reducible repeat (first | refine blk_drewN ?_ _ | refine blk_drew ?_ | refine blk_alloc ?_ _)); refine blk_far ?_ NB463_512.out _; (with_reducible repeat (first | refine blk_drewN ?_ _ | refine blk_drew ?_ | refine blk_alloc ?_ _)); refine blk_far ?_ NB463_512.out _; (with_reducible repeat (first | refine blk_drewN ?_ _ | refine blk_drew ?_ | refine blk_alloc ?_ _)); refine blk_far ?_ NB463_512.out _; (with_reducible repeat (first | refine blk_drewN ?_ _ | refine blk_drew ?_ | refine blk_alloc ?_ _)); refine blk_far ?_ NB463_512.out _; (with_reducible repeat (first | refine blk_drewN ?_ _ | refine blk_drew ?_ | refine blk_alloc ?_ _)); refine blk_far ?_ NB463_512.out _; (with_reducible repeat (first | refine blk_drewN ?_ _ | refine blk_drew ?_ | refine blk_alloc ?_ _)); exact BK463.out⟩, ⟨by (with_reducible repeat (first | refine blk_drewN ?_ _ | refine blk_drew ?_ | refine blk_alloc ?_ _)); refine blk_put (cs := #[.int .i64 t492, .int .i64 t493, .int .i64 t494, .int .i64 t495, .int .i64 t496, .int .i64 t497, .slice Ao43 t498.length co43, .slice Ao44 t501.length co44, .slice Ao45 t504.length co45, .slice none 0 0]) ?_ 9 _ rfl; (with_reducible repeat (first | refine blk_drewN ?_ _ | refine blk_drew ?_ | refine blk_alloc ?_ _)); refine blk_put (cs := #[.int .i64 t492, .int .i64 t493, .int .i64 t494, .int .i64 t495, .int .i64 t496, .int .i64 t497, .slice Ao43 t498.length co43, .slice Ao44 t501.length co44, .slice none 0 0, .slice none 0 0]) ?_ 8 _ rfl; (with_reducible repeat (first | refine blk_drewN ?_ _ | refine blk_drew ?_ | refine blk_alloc ?_ _)); refine blk_put (cs := #[.int .i64 t492, .int .i64 t493, .int .i64 t494, .int .i64 t495, .int .i64 t496, .int .i64 t497, .slice Ao43 t498.length co43, .slice none 0 0, .slice none 0 0, .slice none 0 0]) ?_ 7 _ rfl; (with_reducible repeat (first | refine blk_drewN ?_ _ | refine blk_drew ?_ | refine blk_alloc ?_ _)); refine blk_put (cs := #[.int .i64 t492, .int .i64 t493, .int .i64 t494, .int .i64 t495, .int .i64 t496, .int .i64 t497, .slice none 0 0, .slice none 0 0, .slice none 0 0, .slice none 0 0]) ?_ 6 _ rfl; (with_reducible repeat (first | refine blk_drewN ?_ _ | refine blk_drew ?_ | refine blk_alloc ?_ _)); refine blk_put (cs := #[.int .i64 t492, .int .i64 t493, .int .i64 t494, .int .i64 t495, .int .i64 t496, .int .i64 0, .slice none 0 0, .slice none 0 0, .slice none 0 0, .slice none 0 0]) ?_ 5 _ rfl; (with_reducible repeat (first | refine blk_drewN ?_ _ | refine blk_drew ?_ | refine blk_alloc ?_ _)); refine blk_put (cs := #[.int .i64 t492, .int .i64 t493, .int .i64 t494, .int .i64 t495, .int .i64 0, .int .i64 0, .slice none 0 0, .slice none 0 0, .slice none 0 0, .slice none 0 0]) ?_ 4 _ rfl; (with_reducible repeat (first | refine blk_drewN ?_ _ | refine blk_drew ?_ | refine blk_alloc ?_ _)); refine blk_put (cs := #[.int .i64 t492, .int .i64 t493, .int .i64 t494, .int .i64 0, .int .i64 0, .int .i64 0, .slice none 0 0, .slice none 0 0, .slice none 0 0, .slice none 0 0]) ?_ 3 _ rfl; (with_reducible repeat (first | refine blk_drewN ?_ _ | refine blk_drew ?_ | refine blk_alloc ?_ _)); refine blk_put (cs := #[.int .i64 t492, .int .i64 t493, .int .i64 0, .int .i64 0, .int .i64 0, .int .i64 0, .slice none 0 0, .slice none 0 0, .slice none 0 0, .slice none 0 0]) ?_ 2 _ rfl; (with_reducible repeat (first | refine blk_drewN ?_ _ | refine blk_drew ?_ | refine blk_alloc ?_ _)); refine blk_put (cs := #[.int .i64 t492, .int .i64 0, .int .i64 0, .int .i64 0, .int .i64 0, .int .i64 0, .slice none 0 0, .slice none 0 0, .slice none 0 0, .slice none 0 0]) ?_ 1 _ rfl; (with_reducible repeat (first | refine blk_drewN ?_ _ | refine blk_drew ?_ | refine blk_alloc ?_ _)); refine blk_put (cs := #[.int .i64 0, .int .i64 0, .int .i64 0, .int .i64 0, .int .i64 0, .int .i64 0, .slice none 0 0, .slice none 0 0, .slice none 0 0, .slice none 0 0]) ?_ 0 _ rfl; (with_reducible repeat (first | refine blk_drewN ?_ _ | refine blk_drew ?_ | refine blk_alloc ?_ _)); exact BK512.out⟩, ⟨by repeat (first | (with_reducible first | exact HB.out | apply below_alloc | apply pw_below_drewN | apply below_drew1 | refine below_set ?_ GE463.out | refine below_set ?_ GE512.out) | exact HB.out)⟩⟩
            ·rw [if_neg c47] at H
             have c47b0 : (t510 == (ji32)) = false := beq_eq_false_iff_ne.mpr c47
             have c47b1 : (t510 != (ji32)) = true := bne_iff_ne.mpr c47
             (first | rw [c47b0] | (simp only [i64_w, i32_w]; rw [c47b0]) | skip)
             have H' := Aside0.mk H
             clear H
             go_wp2
             repeat (go_quiet (fail); try go_wp2)
             go_meet
             case rel => exact ⟨_, (true), (by first | rfl | (simp; done) | (simp [*]; done)), H', ⟨by have := HJ5.out; have := HJ17.out; first | omega | exact Nat.le_refl _⟩, ⟨by (with_reducible repeat (first | apply Kd.R_alloc | apply Kd.R_drewN | apply Kd.R_drew)); exact Kd.R_mono (Kd.R_far (p := ⟨gb512, 9, none⟩) (Kd.R_far (p := ⟨gb512, 8, none⟩) (Kd.R_far (p := ⟨gb512, 7, none⟩) (Kd.R_far (p := ⟨gb512, 6, none⟩) (Kd.R_far (p := ⟨gb512, 5, none⟩) (Kd.R_far (p := ⟨gb512, 4, none⟩) (Kd.R_far (p := ⟨gb512, 3, none⟩) (Kd.R_far (p := ⟨gb512, 2, none⟩) (Kd.R_far (p := ⟨gb512, 1, none⟩) (Kd.R_far (p := ⟨gb512, 0, none⟩) (Kd.R_types HO_7.out BK512.out (by decide)) (fun _ hk => hk.2) (.int .i64 t492)) (fun _ hk => hk.2) (.int .i64 t493)) (fun _ hk => hk.2) (.int .i64 t494)) (fun _ hk => hk.2) (.int .i64 t495)) (fun _ hk => hk.2) (.int .i64 t496)) (fun _ hk => hk.2) (.int .i64 t497)) (fun _ hk => hk.2) (.slice Ao43 t498.length co43)) (fun _ hk => hk.2) (.slice Ao44 t501.length co44)) (fun _ hk => hk.2) (.slice Ao45 t504.length co45)) (fun _ hk => hk.2) (.slice Ao46 t507.length co46)) (fun _ hk => hk.1.2)⟩, ⟨by (with_reducible repeat (first | apply Kd.R_alloc | apply Kd.R_drewN | apply Kd.R_drew)); exact Kd.R_mono (Kd.R_far (p := ⟨gb512, 9, none⟩) (Kd.R_far (p := ⟨gb512, 8, none⟩) (Kd.R_far (p := ⟨gb512, 7, none⟩) (Kd.R_far (p := ⟨gb512, 6, none⟩) (Kd.R_far (p := ⟨gb512, 5, none⟩) (Kd.R_far (p := ⟨gb512, 4, none⟩) (Kd.R_far (p := ⟨gb512, 3, none⟩) (Kd.R_far (p := ⟨gb512, 2, none⟩) (Kd.R_far (p := ⟨gb512, 1, none⟩) (Kd.R_far (p := ⟨gb512, 0, none⟩) (Kd.R_types HO500.out BK512.out (by decide)) (fun _ hk => hk.2) (.int .i64 t492)) (fun _ hk => hk.2) (.int .i64 t493)) (fun _ hk => hk.2) (.int .i64 t494)) (fun _ hk => hk.2) (.int .i64 t495)) (fun _ hk => hk.2) (.int .i64 t496)) (fun _ hk => hk.2) (.int .i64 t497)) (fun _ hk => hk.2) (.slice Ao43 t498.length co43)) (fun _ hk => hk.2) (.slice Ao44 t501.length co44)) (fun _ hk => hk.2) (.slice Ao45 t504.length co45)) (fun _ hk => hk.2) (.slice Ao46 t507.length co46)) (fun _ hk => trivial)⟩, ⟨by (with_reducible repeat (first | apply Kd.R_alloc | apply Kd.R_drewN | apply Kd.R_drew)); exact Kd.R_mono (Kd.R_far (p := ⟨gb512, 9, none⟩) (Kd.R_far (p := ⟨gb512, 8, none⟩) (Kd.R_far (p := ⟨gb512, 7, none⟩) (Kd.R_far (p := ⟨gb512, 6, none⟩) (Kd.R_far (p := ⟨gb512, 5, none⟩) (Kd.R_far (p := ⟨gb512, 4, none⟩) (Kd.R_far (p := ⟨gb512, 3, none⟩) (Kd.R_far (p := ⟨gb512, 2, none⟩) (Kd.R_far (p := ⟨gb512, 1, none⟩) (Kd.R_far (p := ⟨gb512, 0, none⟩) (Kd.R_types HO503.out BK512.out (by decide)) (fun _ hk => hk.2) (.int .i64 t492)) (fun _ hk => hk.2) (.int .i64 t493)) (fun _ hk => hk.2) (.int .i64 t494)) (fun _ hk => hk.2) (.int .i64 t495)) (fun _ hk => hk.2) (.int .i64 t496)) (fun _ hk => hk.2) (.int .i64 t497)) (fun _ hk => hk.2) (.slice Ao43 t498.length co43)) (fun _ hk => hk.2) (.slice Ao44 t501.length co44)) (fun _ hk => hk.2) (.slice Ao45 t504.length co45)) (fun _ hk => hk.2) (.slice Ao46 t507.length co46)) (fun _ hk => hk.1.2)⟩, ⟨by (with_reducible repeat (first | apply Kd.R_alloc | apply Kd.R_drewN | apply Kd.R_drew)); exact Kd.R_mono (Kd.R_far (p := ⟨gb512, 9, none⟩) (Kd.R_far (p := ⟨gb512, 8, none⟩) (Kd.R_far (p := ⟨gb512, 7, none⟩) (Kd.R_far (p := ⟨gb512, 6, none⟩) (Kd.R_far (p := ⟨gb512, 5, none⟩) (Kd.R_far (p := ⟨gb512, 4, none⟩) (Kd.R_far (p := ⟨gb512, 3, none⟩) (Kd.R_far (p := ⟨gb512, 2, none⟩) (Kd.R_far (p := ⟨gb512, 1, none⟩) (Kd.R_far (p := ⟨gb512, 0, none⟩) (Kd.R_types HO506.out BK512.out (by decide)) (fun _ hk => hk.2) (.int .i64 t492)) (fun _ hk => hk.2) (.int .i64 t493)) (fun _ hk => hk.2) (.int .i64 t494)) (fun _ hk => hk.2) (.int .i64 t495)) (fun _ hk => hk.2) (.int .i64 t496)) (fun _ hk => hk.2) (.int .i64 t497)) (fun _ hk => hk.2) (.slice Ao43 t498.length co43)) (fun _ hk => hk.2) (.slice Ao44 t501.length co44)) (fun _ hk => hk.2) (.slice Ao45 t504.length co45)) (fun _ hk => hk.2) (.slice Ao46 t507.length co46)) (fun _ hk => trivial)⟩, ⟨by (with_reducible repeat (first | apply Kd.R_alloc | apply Kd.R_drewN | apply Kd.R_drew)); exact Kd.R_mono (Kd.R_far (p := ⟨gb512, 9, none⟩) (Kd.R_far (p := ⟨gb512, 8, none⟩) (Kd.R_far (p := ⟨gb512, 7, none⟩) (Kd.R_far (p := ⟨gb512, 6, none⟩) (Kd.R_far (p := ⟨gb512, 5, none⟩) (Kd.R_far (p := ⟨gb512, 4, none⟩) (Kd.R_far (p := ⟨gb512, 3, none⟩) (Kd.R_far (p := ⟨gb512, 2, none⟩) (Kd.R_far (p := ⟨gb512, 1, none⟩) (Kd.R_far (p := ⟨gb512, 0, none⟩) (Kd.R_types HO509.out BK512.out (by decide)) (fun _ hk => hk.2) (.int .i64 t492)) (fun _ hk => hk.2) (.int .i64 t493)) (fun _ hk => hk.2) (.int .i64 t494)) (fun _ hk => hk.2) (.int .i64 t495)) (fun _ hk => hk.2) (.int .i64 t496)) (fun _ hk => hk.2) (.int .i64 t497)) (fun _ hk => hk.2) (.slice Ao43 t498.length co43)) (fun _ hk => hk.2) (.slice Ao44 t501.length co44)) (fun _ hk => hk.2) (.slice Ao45 t504.length co45)) (fun _ hk => hk.2) (.slice Ao46 t507.length co46)) (fun _ hk => trivial)⟩, ⟨by (with_reducible repeat (first | refine blk_drewN ?_ _ | refine blk_drew ?_ | refine blk_alloc ?_ _)); refine blk_far ?_ NB463_512.out _; (with_reducible repeat (first | refine blk_drewN ?_ _ | refine blk_drew ?_ | refine blk_alloc ?_ _)); refine blk_far ?_ NB463_512.out _; (with_reducible repeat (first | refine blk_drewN ?_ _ | refine blk_drew ?_ | refine blk_alloc ?_ _)); refine blk_far ?_ NB463_512.out _; (with_reducible repeat (first | refine blk_drewN ?_ _ | refine blk_drew ?_ | refine blk_alloc ?_ _)); refine blk_far ?_ NB463_512.out _; (with_reducible repeat (first | refine blk_drewN ?_ _ | refine blk_drew ?_ | refine blk_alloc ?_ _)); refine blk_far ?_ NB463_512.out _; (with_reducible repeat (first | refine blk_drewN ?_ _ | refine blk_drew ?_ | refine blk_alloc ?_ _)); refine blk_far ?_ NB463_512.out _; (with_reducible repeat (first | refine blk_drewN ?_ _ | refine blk_drew ?_ | refine blk_alloc ?_ _)); refine blk_far ?_ NB463_512.out _; (with_reducible repeat (first | refine blk_drewN ?_ _ | refine blk_drew ?_ | refine blk_alloc ?_ _)); refine blk_far ?_ NB463_512.out _; (with_reducible repeat (first | refine blk_drewN ?_ _ | refine blk_drew ?_ | refine blk_alloc ?_ _)); refine blk_far ?_ NB463_512.out _; (with_reducible repeat (first | refine blk_drewN ?_ _ | refine blk_drew ?_ | refine blk_alloc ?_ _)); refine blk_far ?_ NB463_512.out _; (with_reducible repeat (first | refine blk_drewN ?_ _ | refine blk_drew ?_ | refine blk_alloc ?_ _)); exact BK463.out⟩, ⟨by (with_reducible repeat (first | refine blk_drewN ?_ _ | refine blk_drew ?_ | refine blk_alloc ?_ _)); refine blk_put (cs := #[.int .i64 t492, .int .i64 t493, .int .i64 t494, .int .i64 t495, .int .i64 t496, .int .i64 t497, .slice Ao43 t498.length co43, .slice Ao44 t501.length co44, .slice Ao45 t504.length co45, .slice none 0 0]) ?_ 9 _ rfl; (with_reducible repeat (first | refine blk_drewN ?_ _ | refine blk_drew ?_ | refine blk_alloc ?_ _)); refine blk_put (cs := #[.int .i64 t492, .int .i64 t493, .int .i64 t494, .int .i64 t495, .int .i64 t496, .int .i64 t497, .slice Ao43 t498.length co43, .slice Ao44 t501.length co44, .slice none 0 0, .slice none 0 0]) ?_ 8 _ rfl; (with_reducible repeat (first | refine blk_drewN ?_ _ | refine blk_drew ?_ | refine blk_alloc ?_ _)); refine blk_put (cs := #[.int .i64 t492, .int .i64 t493, .int .i64 t494, .int .i64 t495, .int .i64 t496, .int .i64 t497, .slice Ao43 t498.length co43, .slice none 0 0, .slice none 0 0, .slice none 0 0]) ?_ 7 _ rfl; (with_reducible repeat (first | refine blk_drewN ?_ _ | refine blk_drew ?_ | refine blk_alloc ?_ _)); refine blk_put (cs := #[.int .i64 t492, .int .i64 t493, .int .i64 t494, .int .i64 t495, .int .i64 t496, .int .i64 t497, .slice none 0 0, .slice none 0 0, .slice none 0 0, .slice none 0 0]) ?_ 6 _ rfl; (with_reducible repeat (first | refine blk_drewN ?_ _ | refine blk_drew ?_ | refine blk_alloc ?_ _)); refine blk_put (cs := #[.int .i64 t492, .int .i64 t493, .int .i64 t494, .int .i64 t495, .int .i64 t496, .int .i64 0, .slice none 0 0, .slice none 0 0, .slice none 0 0, .slice none 0 0]) ?_ 5 _ rfl; (with_reducible repeat (first | refine blk_drewN ?_ _ | refine blk_drew ?_ | refine blk_alloc ?_ _)); refine blk_put (cs := #[.int .i64 t492, .int .i64 t493, .int .i64 t494, .int .i64 t495, .int .i64 0, .int .i64 0, .slice none 0 0, .slice none 0 0, .slice none 0 0, .slice none 0 0]) ?_ 4 _ rfl; (with_reducible repeat (first | refine blk_drewN ?_ _ | refine blk_drew ?_ | refine blk_alloc ?_ _)); refine blk_put (cs := #[.int .i64 t492, .int .i64 t493, .int .i64 t494, .int .i64 0, .int .i64 0, .int .i64 0, .slice none 0 0, .slice none 0 0, .slice none 0 0, .slice none 0 0]) ?_ 3 _ rfl; (with_reducible repeat (first | refine blk_drewN ?_ _ | refine blk_drew ?_ | refine blk_alloc ?_ _)); refine blk_put (cs := #[.int .i64 t492, .int .i64 t493, .int .i64 0, .int .i64 0, .int .i64 0, .int .i64 0, .slice none 0 0, .slice none 0 0, .slice none 0 0, .slice none 0 0]) ?_ 2 _ rfl; (with_reducible repeat (first | refine blk_drewN ?_ _ | refine blk_drew ?_ | refine blk_alloc ?_ _)); refine blk_put (cs := #[.int .i64 t492, .int .i64 0, .int .i64 0, .int .i64 0, .int .i64 0, .int .i64 0, .slice none 0 0, .slice none 0 0, .slice none 0 0, .slice none 0 0]) ?_ 1 _ rfl; (with_reducible repeat (first | refine blk_drewN ?_ _ | refine blk_drew ?_ | refine blk_alloc ?_ _)); refine blk_put (cs := #[.int .i64 0, .int .i64 0, .int .i64 0, .int .i64 0, .int .i64 0, .int .i64 0, .slice none 0 0, .slice none 0 0, .slice none 0 0, .slice none 0 0]) ?_ 0 _ rfl; (with_reducible repeat (first | refine blk_drewN ?_ _ | refine blk_drew ?_ | refine blk_alloc ?_ _)); exact BK512.out⟩, ⟨by repeat (first | (with_reducible first | exact HB.out | apply below_alloc | apply pw_below_drewN | apply below_drew1 | refine below_set ?_ GE463.out | refine below_set ?_ GE512.out) | exact HB.out)⟩⟩
           case rest =>
            clear HC36
            try clear c1
            try clear c2
            try clear p2
            try clear c3
            try clear q3
            try clear c4
            try clear c5
            try clear c6
            try clear p6
            try clear c10
            try clear c15
            try clear c28
            try clear c28b0
            try clear c28b1
            try clear c30
            try clear c31
            try clear c31b0
            try clear c31b1
            try clear c31b2
            try clear c33
            try clear c33b0
            try clear c33b1
            try clear c34
            try clear c34b0
            try clear c34b1
            try clear q38
            try clear c41
            try clear c47
            try clear c47b0
            try clear c47b1
            try clear hcz11_0
            try clear hcz11_1
            try clear hcz11_2
            try clear hcz11_3
            try clear hcz11_4
            try clear hcz11_5
            try clear hcz11_6
            try clear hcz11_7
            try clear hcz11_8
            try clear hcz11_9
            try clear hcz13_0
            try clear hcz13_1
            try clear hcz13_2
            try clear hcz13_3
            try clear hcz13_4
            try clear hcz13_5
            try clear hcz13_6
            try clear hcz13_7
            try clear hcz13_8
            try clear hcz13_9
            try clear hcz19_0
            try clear hcz19_1
            try clear hcz19_2
            try clear hcz19_3
            try clear hcz19_4
            try clear hcz19_5
            try clear hcz19_6
            try clear hcz19_7
            try clear hcz19_8
            try clear hcz19_9
            try clear hcz21_0
            try clear hcz21_1
            try clear hcz21_2
            try clear hcz21_3
            try clear hcz21_4
            try clear hcz21_5
            try clear hcz21_6
            try clear hcz21_7
            try clear hcz21_8
            try clear hcz21_9
            try clear hcz42_0
            try clear hcz42_1
            try clear hcz42_2
            try clear hcz42_3
            try clear hcz42_4
            try clear hcz42_5
            try clear hcz42_6
            try clear hcz42_7
            try clear hcz42_8
            try clear hcz42_9
            try clear hfz11_0
            try clear hfz11_1
            try clear hfz11_2
            try clear hfz11_3
            try clear hfz11_4
            try clear hfz11_5
            try clear hfz11_6
            try clear hfz11_7
            try clear hfz11_8
            try clear hfz11_9
            try clear hfz13_0
            try clear hfz13_1
            try clear hfz13_2
            try clear hfz13_3
            try clear hfz13_4
            try clear hfz13_5
            try clear hfz13_6
            try clear hfz13_7
            try clear hfz13_8
            try clear hfz13_9
            try clear hfz19_0
            try clear hfz19_1
            try clear hfz19_2
            try clear hfz19_3
            try clear hfz19_4
            try clear hfz19_5
            try clear hfz19_6
            try clear hfz19_7
            try clear hfz19_8
            try clear hfz19_9
            try clear hfz21_0
            try clear hfz21_1
            try clear hfz21_2
            try clear hfz21_3
            try clear hfz21_4
            try clear hfz21_5
            try clear hfz21_6
            try clear hfz21_7
            try clear hfz21_8
            try clear hfz21_9
            try clear hfz42_0
            try clear hfz42_1
            try clear hfz42_2
            try clear hfz42_3
            try clear hfz42_4
            try clear hfz42_5
            try clear hfz42_6
            try clear hfz42_7
            try clear hfz42_8
            try clear hfz42_9
            try clear p2
            try clear q38
            obtain ⟨kq, x61_35, rfl, HA, HJ35, HO_7, HO_513006, HO_513007, HO_513008, HO_513009, BK463, BK512, HB⟩ := hcut
            cases kq with
            | zero => exact absurd HA.out (by simp [quarrellaw20_ScriptCut.j2])
            | succ kj35 =>
             have H := HA.out
             clear HA
             simp only [quarrellaw20_ScriptCut.j2] at H
             by_cases c48 : x61_35 = true
             ·subst c48
              have H1 : (some false) = some r := by rw [if_pos rfl] at H; exact H
              clear H
              have H := H1
              clear H1
              obtain rfl := Option.some.inj H
              go_wp2
              repeat (go_quiet (fail); try go_wp2)
              go_ret
              exact ⟨by first | rfl | (simp [errW_none, errW_some] <;> rfl) | (simp only [← hji32]; first | rfl | (simp [errW_none, errW_some] <;> rfl)) | (simp [*, errW_none, errW_some] <;> rfl), by repeat (first | (with_reducible first | exact HB.out | apply below_alloc | apply pw_below_drewN | apply below_drew1 | refine below_set ?_ GE463.out | refine below_set ?_ GE512.out) | exact HB.out)⟩
             ·replace c48 := Bool.eq_false_iff.mpr c48
              subst c48
              have H1 : ((some (([] : List Int) : List Int)).bind fun y513 => (if y513.length + t484.length < 140737488355328 then ((some (y513 ++ t484 : List Int)).bind fun y516 => (if y516.length + l2.length < 140737488355328 then ((script_Get.f kj35 (y516 ++ l2)).bind fun bt522 => (if bt522.2.2.2.2.2.2.2.2.2.2.2 = 0 then (quarrellaw20_ScriptCut.j3 kj35 l2 ((bt522.2.2.2.2.2.2.2.2.2.1.length : Int) != (l2.length : Int)) bt522.1 bt522.2.1 bt522.2.2.1 bt522.2.2.2.1 bt522.2.2.2.2.1 bt522.2.2.2.2.2.1 bt522.2.2.2.2.2.2.1 bt522.2.2.2.2.2.2.2.1 bt522.2.2.2.2.2.2.2.2.1 bt522.2.2.2.2.2.2.2.2.2.1) else (quarrellaw20_ScriptCut.j3 kj35 l2 true bt522.1 bt522.2.1 bt522.2.2.1 bt522.2.2.2.1 bt522.2.2.2.2.1 bt522.2.2.2.2.2.1 bt522.2.2.2.2.2.2.1 bt522.2.2.2.2.2.2.2.1 bt522.2.2.2.2.2.2.2.2.1 bt522.2.2.2.2.2.2.2.2.2.1))) else (none))) else (none))) = some r := by rw [if_neg (show ¬ (false = true) by decide)] at H; exact H
              clear H
              have H := H1
              clear H1
              obtain ⟨y513, hy513⟩ : ∃ y_ : List Int, y_ = (([] : List Int)) := ⟨_, rfl⟩
              replace H : (if y513.length + t484.length < 140737488355328 then ((some (y513 ++ t484 : List Int)).bind fun y516 => (if y516.length + l2.length < 140737488355328 then ((script_Get.f kj35 (y516 ++ l2)).bind fun bt522 => (if bt522.2.2.2.2.2.2.2.2.2.2.2 = 0 then (quarrellaw20_ScriptCut.j3 kj35 l2 ((bt522.2.2.2.2.2.2.2.2.2.1.length : Int) != (l2.length : Int)) bt522.1 bt522.2.1 bt522.2.2.1 bt522.2.2.2.1 bt522.2.2.2.2.1 bt522.2.2.2.2.2.1 bt522.2.2.2.2.2.2.1 bt522.2.2.2.2.2.2.2.1 bt522.2.2.2.2.2.2.2.2.1 bt522.2.2.2.2.2.2.2.2.2.1) else (quarrellaw20_ScriptCut.j3 kj35 l2 true bt522.1 bt522.2.1 bt522.2.2.1 bt522.2.2.2.1 bt522.2.2.2.2.1 bt522.2.2.2.2.2.1 bt522.2.2.2.2.2.2.1 bt522.2.2.2.2.2.2.2.1 bt522.2.2.2.2.2.2.2.2.1 bt522.2.2.2.2.2.2.2.2.2.1))) else (none))) else (none)) = some r := by first | (rw [hy513]; with_reducible exact H) | (have H2_ := (Option.bind_some _ _).symm.trans H; rw [hy513]; with_reducible exact H2_) | (have H2_ := (Option.bind_some _ _).symm.trans H; with_reducible exact H2_) | with_reducible exact H | (rw [hy513]; exact H) | exact H
              have Ny513 := Aside0.mk hy513
              clear hy513
              by_cases c49 : y513.length + t484.length < 140737488355328
              ·rw [if_pos c49] at H
               have LMc49 := Aside0.mk c49
               clear c49
               obtain ⟨y516, hy516⟩ : ∃ y_ : List Int, y_ = (y513 ++ t484) := ⟨_, rfl⟩
               replace H : (if y516.length + l2.length < 140737488355328 then ((script_Get.f kj35 (y516 ++ l2)).bind fun bt522 => (if bt522.2.2.2.2.2.2.2.2.2.2.2 = 0 then (quarrellaw20_ScriptCut.j3 kj35 l2 ((bt522.2.2.2.2.2.2.2.2.2.1.length : Int) != (l2.length : Int)) bt522.1 bt522.2.1 bt522.2.2.1 bt522.2.2.2.1 bt522.2.2.2.2.1 bt522.2.2.2.2.2.1 bt522.2.2.2.2.2.2.1 bt522.2.2.2.2.2.2.2.1 bt522.2.2.2.2.2.2.2.2.1 bt522.2.2.2.2.2.2.2.2.2.1) else (quarrellaw20_ScriptCut.j3 kj35 l2 true bt522.1 bt522.2.1 bt522.2.2.1 bt522.2.2.2.1 bt522.2.2.2.2.1 bt522.2.2.2.2.2.1 bt522.2.2.2.2.2.2.1 bt522.2.2.2.2.2.2.2.1 bt522.2.2.2.2.2.2.2.2.1 bt522.2.2.2.2.2.2.2.2.2.1))) else (none)) = some r := by first | (rw [hy516]; with_reducible exact H) | (have H2_ := (Option.bind_some _ _).symm.trans H; rw [hy516]; with_reducible exact H2_) | (have H2_ := (Option.bind_some _ _).symm.trans H; with_reducible exact H2_) | with_reducible exact H | (rw [hy516]; exact H) | exact H
               have Ny516 := Aside0.mk hy516
               clear hy516
               by_cases c50 : y516.length + l2.length < 140737488355328
               ·rw [if_pos c50] at H
                have LMc50 := Aside0.mk c50
                clear c50
                obtain ⟨y519, hy519⟩ : ∃ y_ : List Int, y_ = (y516 ++ l2) := ⟨_, rfl⟩
                replace H : ((script_Get.f kj35 y519).bind fun bt522 => (if bt522.2.2.2.2.2.2.2.2.2.2.2 = 0 then (quarrellaw20_ScriptCut.j3 kj35 l2 ((bt522.2.2.2.2.2.2.2.2.2.1.length : Int) != (l2.length : Int)) bt522.1 bt522.2.1 bt522.2.2.1 bt522.2.2.2.1 bt522.2.2.2.2.1 bt522.2.2.2.2.2.1 bt522.2.2.2.2.2.2.1 bt522.2.2.2.2.2.2.2.1 bt522.2.2.2.2.2.2.2.2.1 bt522.2.2.2.2.2.2.2.2.2.1) else (quarrellaw20_ScriptCut.j3 kj35 l2 true bt522.1 bt522.2.1 bt522.2.2.1 bt522.2.2.2.1 bt522.2.2.2.2.1 bt522.2.2.2.2.2.1 bt522.2.2.2.2.2.2.1 bt522.2.2.2.2.2.2.2.1 bt522.2.2.2.2.2.2.2.2.1 bt522.2.2.2.2.2.2.2.2.2.1))) = some r := by first | (rw [hy519]; with_reducible exact H) | (have H2_ := (Option.bind_some _ _).symm.trans H; rw [hy519]; with_reducible exact H2_) | (have H2_ := (Option.bind_some _ _).symm.trans H; with_reducible exact H2_) | with_reducible exact H | (rw [hy519]; exact H) | exact H
                have Ny519 := Aside0.mk hy519
                clear hy519
                replace H := Option.bind_eq_some_iff.mp H
                obtain ⟨⟨t522, t523, t524, t525, t526, t527, t528, t531, t534, t537, t540, t541⟩, A510, H⟩ := H
                replace H : (if t541 = 0 then (quarrellaw20_ScriptCut.j3 kj35 l2 ((t537.length : Int) != (l2.length : Int)) t522 t523 t524 t525 t526 t527 t528 t531 t534 t537) else (quarrellaw20_ScriptCut.j3 kj35 l2 true t522 t523 t524 t525 t526 t527 t528 t531 t534 t537)) = some r := H
                have A51 := Aside0.mk A510
                clear A510
                have HC52 := Aside0.mk H
                clear H
                go_upto_region 14 with (first | ((with_reducible refine gate_dst (N := 63) rfl ?_); (try (refine gate_guard (by rfl) ?_; dsimp only)); refine Kd.R_lit (Kd.int .u8) _ 5 ?hg (N := 63) ?hd (xs := ([] : List Int)) (inner := []) (ok := fun _ => True) (okp := fun _ => True) ?hr ?hp (fun _ hk => hk) trivial (Below.refl _ _) (Nat.le_refl _) (by simp) ?_; (case hd => rfl); (case hg => rfl); (case hr => first | (go_simp; done) | (go_simp; rfl)); (case hp => exact (Reps.none _ _)); intro v514 w53 ho54 hb hg_ hnew_; clear hg_ hnew_; (first | rw [← Ny513.out] at ho54 | (simp only [Int.reduceToNat] at ho54; rw [← Ny513.out] at ho54)); have n0_ := Aside0.mk (Kd.R_elder' (by (with_reducible repeat (first | apply Kd.R_alloc | apply Kd.R_drewN | apply Kd.R_drew)); exact HO_7.out) (Kd.R_base ho54) hb); have n1_ := Aside0.mk (Kd.R_below (by (with_reducible repeat (first | apply Kd.R_alloc | apply Kd.R_drewN | apply Kd.R_drew)); exact HO_513006.out) hb); have n2_ := Aside0.mk (Kd.R_elder' (by (with_reducible repeat (first | apply Kd.R_alloc | apply Kd.R_drewN | apply Kd.R_drew)); exact HO_513007.out) (Kd.R_base ho54) hb); have n3_ := Aside0.mk (Kd.R_below (by (with_reducible repeat (first | apply Kd.R_alloc | apply Kd.R_drewN | apply Kd.R_drew)); exact HO_513008.out) hb); have n4_ := Aside0.mk (Kd.R_below (by (with_reducible repeat (first | apply Kd.R_alloc | apply Kd.R_drewN | apply Kd.R_drew)); exact HO_513009.out) hb); have n5_ := Aside0.mk (Kd.R_lower (Kd.R_new' (Kd.R_new' ho54 (Kd.R_lt (by (with_reducible repeat (first | apply Kd.R_alloc | apply Kd.R_drewN | apply Kd.R_drew)); exact HO_7.out))) (Kd.R_lt (by (with_reducible repeat (first | apply Kd.R_alloc | apply Kd.R_drewN | apply Kd.R_drew)); exact HO_513007.out))) (below_size (by repeat (first | (with_reducible first | exact HB.out | apply below_alloc | apply pw_below_drewN | apply below_drew1 | refine below_set ?_ GE463.out | refine below_set ?_ GE512.out) | exact HB.out)))); have n6_ := Aside0.mk (blk_below (g := gb463) (o := .cells #[.int .i64 a0_0, .int .i64 a0_1, .int .i64 a0_2, .int .i64 a0_3, .int .i64 a0_4, .int .i64 a0_5, .slice A0_6 l0_6.length c0_6, .slice A0_7 l0_7.length c0_7, .slice A0_8 l0_8.length c0_8, .slice none 0 0] 34 (0, 0)) (by (with_reducible repeat (first | refine blk_drewN ?_ _ | refine blk_drew ?_ | refine blk_alloc ?_ _)); exact BK463.out) hb); have n7_ := Aside0.mk (blk_below (g := gb512) (o := .cells #[.int .i64 t492, .int .i64 t493, .int .i64 t494, .int .i64 t495, .int .i64 t496, .int .i64 t497, .slice Ao43 t498.length co43, .slice Ao44 t501.length co44, .slice Ao45 t504.length co45, .slice Ao46 t507.length co46] 30 (0, 0)) (by (with_reducible repeat (first | refine blk_drewN ?_ _ | refine blk_drew ?_ | refine blk_alloc ?_ _)); exact BK512.out) hb); have n8_ := Aside0.mk (below_step (by repeat (first | (with_reducible first | exact HB.out | apply below_alloc | apply pw_below_drewN | apply below_drew1 | refine below_set ?_ GE463.out | refine below_set ?_ GE512.out) | exact HB.out)) hb); clear HO_7; clear HO_513006; clear HO_513007; clear HO_513008; clear HO_513009; clear BK463; clear BK512; clear HB; have HO_7 := n0_; have HO_513006 := n1_; have HO_513007 := n2_; have HO_513008 := n3_; have HO_513009 := n4_; have HO515 := n5_; have BK463 := n6_; have BK512 := n7_; have HB := n8_; clear n0_ n1_ n2_ n3_ n4_ n5_ n6_ n7_ n8_; clear hb ho54) | ((with_reducible refine gate_builtin (b := .append) (xs := #[.tmp 63, .tmp 64]) rfl ?_); (try (refine gate_guard (by rfl) ?_; dsimp only)); at_builtin; refine Kd.R_append_rows (Kd.int .u8) (w0 := w) w.heap.size rfl (.tmp 63) (.tmp 64) 22 5 (.int .u8 0) 1 rfl Try.underlying22 info5 rfl (by decide) (by omega) v514 y513 t484 _ _ _ (fun k_ => some k_ ≠ (.slice Ao37 t484.length co37 : Value).ownBlock ∧ some k_ ≠ (.slice Ao44 t501.length co44 : Value).ownBlock) (fun _ => False) rfl rfl ?aO ?aR (fun _ _ h => h) (fun _ h => h.elim) ?aF ?aB ?aS ?aL ?_; (case aR => repeat (first | exact (Kd.R_reads' HO_7.out).2.2 | (with_reducible refine Kd.C_alloc ?_ _) | (with_reducible refine Kd.C_drewN ?_ _) | (with_reducible refine Kd.C_drew ?_))); (case aB => exact (by repeat (first | (with_reducible first | exact HB.out | apply below_alloc | apply pw_below_drewN | apply below_drew1 | refine below_set ?_ GE463.out | refine below_set ?_ GE512.out) | exact HB.out))); (case aF => exact (fun k_ hk => ⟨Kd.fresh' (Kd.R_lt (by (with_reducible repeat (first | apply Kd.R_alloc | apply Kd.R_drewN | apply Kd.R_drew)); exact HO_7.out)) k_ hk, Kd.fresh' (Kd.R_lt (by (with_reducible repeat (first | apply Kd.R_alloc | apply Kd.R_drewN | apply Kd.R_drew)); exact HO_513007.out)) k_ hk⟩)); (case aO => exact (by (with_reducible repeat (first | apply Kd.R_alloc | apply Kd.R_drewN | apply Kd.R_drew)); exact Kd.R_mono HO515.out (fun _ hk => ⟨hk.1.2, hk.2⟩))); (case aS => exact (below_size (by repeat (first | (with_reducible first | exact HB.out | apply below_alloc | apply pw_below_drewN | apply below_drew1 | refine below_set ?_ GE463.out | refine below_set ?_ GE512.out) | exact HB.out)))); (case aL => have := LMc49.out; omega); intro v517 w55 ho hb hg hat; rw [← Ny516.out] at ho; have n0_ := Aside0.mk (Kd.R_after (ok := (fun k_ => some k_ ≠ (.slice Ao44 t501.length co44 : Value).ownBlock)) (by (with_reducible repeat (first | apply Kd.R_alloc | apply Kd.R_drewN | apply Kd.R_drew)); exact HO_7.out) hg hat); have n1_ := Aside0.mk (Kd.R_over' (by (with_reducible repeat (first | apply Kd.R_alloc | apply Kd.R_drewN | apply Kd.R_drew)); exact HO_513006.out) (Kd.R_typed (by (with_reducible repeat (first | apply Kd.R_alloc | apply Kd.R_drewN | apply Kd.R_drew)); exact HO515.out)) (by decide) hg); have n2_ := Aside0.mk (Kd.R_after (ok := (fun k_ => some k_ ≠ (.slice Ao37 t484.length co37 : Value).ownBlock)) (by (with_reducible repeat (first | apply Kd.R_alloc | apply Kd.R_drewN | apply Kd.R_drew)); exact HO_513007.out) hg hat); have n3_ := Aside0.mk (Kd.R_over' (by (with_reducible repeat (first | apply Kd.R_alloc | apply Kd.R_drewN | apply Kd.R_drew)); exact HO_513008.out) (Kd.R_typed (by (with_reducible repeat (first | apply Kd.R_alloc | apply Kd.R_drewN | apply Kd.R_drew)); exact HO515.out)) (by decide) hg); have n4_ := Aside0.mk (Kd.R_over' (by (with_reducible repeat (first | apply Kd.R_alloc | apply Kd.R_drewN | apply Kd.R_drew)); exact HO_513009.out) (Kd.R_typed (by (with_reducible repeat (first | apply Kd.R_alloc | apply Kd.R_drewN | apply Kd.R_drew)); exact HO515.out)) (by decide) hg); have n5_ := Aside0.mk (blk_grown (g := gb463) (o := .cells #[.int .i64 a0_0, .int .i64 a0_1, .int .i64 a0_2, .int .i64 a0_3, .int .i64 a0_4, .int .i64 a0_5, .slice A0_6 l0_6.length c0_6, .slice A0_7 l0_7.length c0_7, .slice A0_8 l0_8.length c0_8, .slice none 0 0] 34 (0, 0)) (by (with_reducible repeat (first | refine blk_drewN ?_ _ | refine blk_drew ?_ | refine blk_alloc ?_ _)); exact BK463.out) hg (Kd.R_ne HO515.out BK463.out (by decide))); have n6_ := Aside0.mk (blk_grown (g := gb512) (o := .cells #[.int .i64 t492, .int .i64 t493, .int .i64 t494, .int .i64 t495, .int .i64 t496, .int .i64 t497, .slice Ao43 t498.length co43, .slice Ao44 t501.length co44, .slice Ao45 t504.length co45, .slice Ao46 t507.length co46] 30 (0, 0)) (by (with_reducible repeat (first | refine blk_drewN ?_ _ | refine blk_drew ?_ | refine blk_alloc ?_ _)); exact BK512.out) hg (Kd.R_ne HO515.out BK512.out (by decide))); have n7_ := Aside0.mk (hb); have n8_ := Aside0.mk (ho); clear HO_7; clear HO_513006; clear HO_513007; clear HO_513008; clear HO_513009; clear BK463; clear BK512; clear HB; clear HO515; have HO_7 := n0_; have HO_513006 := n1_; have HO_513007 := n2_; have HO_513008 := n3_; have HO_513009 := n4_; have BK463 := n5_; have BK512 := n6_; have HB := n7_; have HO518 := n8_; clear n0_ n1_ n2_ n3_ n4_ n5_ n6_ n7_ n8_; clear ho hb hg hat) | ((with_reducible refine gate_builtin (b := .append) (xs := #[.tmp 65, .tmp 66]) rfl ?_); (try (refine gate_guard (by rfl) ?_; dsimp only)); at_builtin; refine Kd.R_append_rows (Kd.int .u8) (w0 := w) w.heap.size rfl (.tmp 65) (.tmp 66) 22 5 (.int .u8 0) 1 rfl Try.underlying22 info5 rfl (by decide) (by omega) v517 y516 l2 _ _ _ (fun k_ => some k_ ≠ (.slice Ao37 t484.length co37 : Value).ownBlock ∧ some k_ ≠ (.slice Ao44 t501.length co44 : Value).ownBlock) (fun _ => False) rfl rfl ?aO ?aR (fun _ _ h => h) (fun _ h => h.elim) ?aF ?aB ?aS ?aL ?_; (case aR => repeat (first | exact (Kd.C_below HR2.out HB.out) | (with_reducible refine Kd.C_alloc ?_ _) | (with_reducible refine Kd.C_drewN ?_ _) | (with_reducible refine Kd.C_drew ?_))); (case aB => exact (by repeat (first | (with_reducible first | exact HB.out | apply below_alloc | apply pw_below_drewN | apply below_drew1 | refine below_set ?_ GE463.out | refine below_set ?_ GE512.out) | exact HB.out))); (case aF => exact (fun k_ hk => ⟨Kd.fresh' (Kd.R_lt (by (with_reducible repeat (first | apply Kd.R_alloc | apply Kd.R_drewN | apply Kd.R_drew)); exact HO_7.out)) k_ hk, Kd.fresh' (Kd.R_lt (by (with_reducible repeat (first | apply Kd.R_alloc | apply Kd.R_drewN | apply Kd.R_drew)); exact HO_513007.out)) k_ hk⟩)); (case aO => exact (by (with_reducible repeat (first | apply Kd.R_alloc | apply Kd.R_drewN | apply Kd.R_drew)); exact HO518.out)); (case aS => exact (below_size (by repeat (first | (with_reducible first | exact HB.out | apply below_alloc | apply pw_below_drewN | apply below_drew1 | refine below_set ?_ GE463.out | refine below_set ?_ GE512.out) | exact HB.out)))); (case aL => have := LMc50.out; omega); intro v520 w56 ho hb hg hat; rw [← Ny519.out] at ho; have n0_ := Aside0.mk (Kd.R_after (ok := (fun k_ => some k_ ≠ (.slice Ao44 t501.length co44 : Value).ownBlock)) (by (with_reducible repeat (first | apply Kd.R_alloc | apply Kd.R_drewN | apply Kd.R_drew)); exact HO_7.out) hg hat); have n1_ := Aside0.mk (Kd.R_over' (by (with_reducible repeat (first | apply Kd.R_alloc | apply Kd.R_drewN | apply Kd.R_drew)); exact HO_513006.out) (Kd.R_typed (by (with_reducible repeat (first | apply Kd.R_alloc | apply Kd.R_drewN | apply Kd.R_drew)); exact HO518.out)) (by decide) hg); have n2_ := Aside0.mk (Kd.R_after (ok := (fun k_ => some k_ ≠ (.slice Ao37 t484.length co37 : Value).ownBlock)) (by (with_reducible repeat (first | apply Kd.R_alloc | apply Kd.R_drewN | apply Kd.R_drew)); exact HO_513007.out) hg hat); have n3_ := Aside0.mk (Kd.R_over' (by (with_reducible repeat (first | apply Kd.R_alloc | apply Kd.R_drewN | apply Kd.R_drew)); exact HO_513008.out) (Kd.R_typed (by (with_reducible repeat (first | apply Kd.R_alloc | apply Kd.R_drewN | apply Kd.R_drew)); exact HO518.out)) (by decide) hg); have n4_ := Aside0.mk (Kd.R_over' (by (with_reducible repeat (first | apply Kd.R_alloc | apply Kd.R_drewN | apply Kd.R_drew)); exact HO_513009.out) (Kd.R_typed (by (with_reducible repeat (first | apply Kd.R_alloc | apply Kd.R_drewN | apply Kd.R_drew)); exact HO518.out)) (by decide) hg); have n5_ := Aside0.mk (blk_grown (g := gb463) (o := .cells #[.int .i64 a0_0, .int .i64 a0_1, .int .i64 a0_2, .int .i64 a0_3, .int .i64 a0_4, .int .i64 a0_5, .slice A0_6 l0_6.length c0_6, .slice A0_7 l0_7.length c0_7, .slice A0_8 l0_8.length c0_8, .slice none 0 0] 34 (0, 0)) (by (with_reducible repeat (first | refine blk_drewN ?_ _ | refine blk_drew ?_ | refine blk_alloc ?_ _)); exact BK463.out) hg (Kd.R_ne HO518.out BK463.out (by decide))); have n6_ := Aside0.mk (blk_grown (g := gb512) (o := .cells #[.int .i64 t492, .int .i64 t493, .int .i64 t494, .int .i64 t495, .int .i64 t496, .int .i64 t497, .slice Ao43 t498.length co43, .slice Ao44 t501.length co44, .slice Ao45 t504.length co45, .slice Ao46 t507.length co46] 30 (0, 0)) (by (with_reducible repeat (first | refine blk_drewN ?_ _ | refine blk_drew ?_ | refine blk_alloc ?_ _)); exact BK512.out) hg (Kd.R_ne HO518.out BK512.out (by decide))); have n7_ := Aside0.mk (hb); have n8_ := Aside0.mk (ho); clear HO_7; clear HO_513006; clear HO_513007; clear HO_513008; clear HO_513009; clear BK463; clear BK512; clear HB; clear HO518; have HO_7 := n0_; have HO_513006 := n1_; have HO_513007 := n2_; have HO_513008 := n3_; have HO_513009 := n4_; have BK463 := n5_; have BK512 := n6_; have HB := n7_; have HO521 := n8_; clear n0_ n1_ n2_ n3_ n4_ n5_ n6_ n7_ n8_; clear ho hb hg hat; obtain ⟨Ao57, co57, eo57⟩ := Kd.R_slice HO521.out; subst eo57) | (go_at_call 10; (with_reducible refine (script_Get.calls kj35 _ _ y519 t522 t523 t524 t525 t526 t527 t528 t531 t534 t537 t540 t541 _ ?side1 ?side2 A51.out).mono ?_); (case side1 => repeat (first | exact (Kd.R_reads' HO521.out).2.2 | (with_reducible refine Kd.C_alloc ?_ _) | (with_reducible refine Kd.C_drewN ?_ _) | (with_reducible refine Kd.C_drew ?_))); (case side2 => exact (Kd.R_reads' HO521.out).2.1); rintro e w58 ⟨v529, v532, v535, v538, rfl, ho0, ho1, ho2, ho3, hb⟩; have n0_ := Aside0.mk (Kd.R_elder' (by (with_reducible repeat (first | apply Kd.R_alloc | apply Kd.R_drewN | apply Kd.R_drew)); exact HO_7.out) (Kd.R_base ho1) hb); have n1_ := Aside0.mk (Kd.R_elder' (by (with_reducible repeat (first | apply Kd.R_alloc | apply Kd.R_drewN | apply Kd.R_drew)); exact HO_513006.out) (Kd.R_base ho0) hb); have n2_ := Aside0.mk (Kd.R_elder' (by (with_reducible repeat (first | apply Kd.R_alloc | apply Kd.R_drewN | apply Kd.R_drew)); exact HO_513007.out) (Kd.R_base ho1) hb); have n3_ := Aside0.mk (Kd.R_elder' (by (with_reducible repeat (first | apply Kd.R_alloc | apply Kd.R_drewN | apply Kd.R_drew)); exact HO_513008.out) (Kd.R_base ho2) hb); have n4_ := Aside0.mk (Kd.R_elder' (by (with_reducible repeat (first | apply Kd.R_alloc | apply Kd.R_drewN | apply Kd.R_drew)); exact HO_513009.out) (Kd.R_base ho3) hb); have n5_ := Aside0.mk (Kd.R_elder' (by (with_reducible repeat (first | apply Kd.R_alloc | apply Kd.R_drewN | apply Kd.R_drew)); exact HO521.out) (Kd.R_base ho1) hb); have n6_ := Aside0.mk (Kd.R_lower (Kd.R_new' ho0 (Kd.R_lt (by (with_reducible repeat (first | apply Kd.R_alloc | apply Kd.R_drewN | apply Kd.R_drew)); exact HO_513006.out))) (below_size (by repeat (first | (with_reducible first | exact HB.out | apply below_alloc | apply pw_below_drewN | apply below_drew1 | refine below_set ?_ GE463.out | refine below_set ?_ GE512.out) | exact HB.out)))); have n7_ := Aside0.mk (Kd.R_lower (Kd.R_new' (Kd.R_new' (Kd.R_new' ho1 (Kd.R_lt (by (with_reducible repeat (first | apply Kd.R_alloc | apply Kd.R_drewN | apply Kd.R_drew)); exact HO_7.out))) (Kd.R_lt (by (with_reducible repeat (first | apply Kd.R_alloc | apply Kd.R_drewN | apply Kd.R_drew)); exact HO_513007.out))) (Kd.R_lt (by (with_reducible repeat (first | apply Kd.R_alloc | apply Kd.R_drewN | apply Kd.R_drew)); exact HO521.out))) (below_size (by repeat (first | (with_reducible first | exact HB.out | apply below_alloc | apply pw_below_drewN | apply below_drew1 | refine below_set ?_ GE463.out | refine below_set ?_ GE512.out) | exact HB.out)))); have n8_ := Aside0.mk (Kd.R_lower (Kd.R_new' ho2 (Kd.R_lt (by (with_reducible repeat (first | apply Kd.R_alloc | apply Kd.R_drewN | apply Kd.R_drew)); exact HO_513008.out))) (below_size (by repeat (first | (with_reducible first | exact HB.out | apply below_alloc | apply pw_below_drewN | apply below_drew1 | refine below_set ?_ GE463.out | refine below_set ?_ GE512.out) | exact HB.out)))); have n9_ := Aside0.mk (Kd.R_lower (Kd.R_new' ho3 (Kd.R_lt (by (with_reducible repeat (first | apply Kd.R_alloc | apply Kd.R_drewN | apply Kd.R_drew)); exact HO_513009.out))) (below_size (by repeat (first | (with_reducible first | exact HB.out | apply below_alloc | apply pw_below_drewN | apply below_drew1 | refine below_set ?_ GE463.out | refine below_set ?_ GE512.out) | exact HB.out)))); have n10_ := Aside0.mk (blk_below (g := gb463) (o := .cells #[.int .i64 a0_0, .int .i64 a0_1, .int .i64 a0_2, .int .i64 a0_3, .int .i64 a0_4, .int .i64 a0_5, .slice A0_6 l0_6.length c0_6, .slice A0_7 l0_7.length c0_7, .slice A0_8 l0_8.length c0_8, .slice none 0 0] 34 (0, 0)) (by (with_reducible repeat (first | refine blk_drewN ?_ _ | refine blk_drew ?_ | refine blk_alloc ?_ _)); exact BK463.out) hb); have n11_ := Aside0.mk (blk_below (g := gb512) (o := .cells #[.int .i64 t492, .int .i64 t493, .int .i64 t494, .int .i64 t495, .int .i64 t496, .int .i64 t497, .slice Ao43 t498.length co43, .slice Ao44 t501.length co44, .slice Ao45 t504.length co45, .slice Ao46 t507.length co46] 30 (0, 0)) (by (with_reducible repeat (first | refine blk_drewN ?_ _ | refine blk_drew ?_ | refine blk_alloc ?_ _)); exact BK512.out) hb); have n12_ := Aside0.mk (below_step (by repeat (first | (with_reducible first | exact HB.out | apply below_alloc | apply pw_below_drewN | apply below_drew1 | refine below_set ?_ GE463.out | refine below_set ?_ GE512.out) | exact HB.out)) hb); clear HO_7; clear HO_513006; clear HO_513007; clear HO_513008; clear HO_513009; clear HO521; clear BK463; clear BK512; clear HB; have HO_7 := n0_; have HO_513006 := n1_; have HO_513007 := n2_; have HO_513008 := n3_; have HO_513009 := n4_; have HO521 := n5_; have HO530 := n6_; have HO533 := n7_; have HO536 := n8_; have HO539 := n9_; have BK463 := n10_; have BK512 := n11_; have HB := n12_; clear n0_ n1_ n2_ n3_ n4_ n5_ n6_ n7_ n8_ n9_ n10_ n11_ n12_; (try clear hb); (try clear hb2); (try clear hk); (try clear hi); (try clear ho0); (try clear ho1); (try clear ho2); (try clear ho3)) | ((with_reducible refine gate_dst (N := 13) rfl ?_); (try (refine gate_guard (by rfl) ?_; dsimp only)); refine box_event ?hg (N := 13) ?hd (cs := #[.int .i64 0, .int .i64 0, .int .i64 0, .int .i64 0, .int .i64 0, .int .i64 0, .slice none 0 0, .slice none 0 0, .slice none 0 0, .slice none 0 0]) (t := 30) ?hr ?_; (case hd => rfl); (case hg => rfl); (case hr => first | (go_simp; done) | (go_simp; rfl)); intro gb542 hg w59 hbox hb; have n0_ := Aside0.mk (Kd.R_below (by (with_reducible repeat (first | apply Kd.R_alloc | apply Kd.R_drewN | apply Kd.R_drew)); exact HO_7.out) hb); have n1_ := Aside0.mk (Kd.R_below (by (with_reducible repeat (first | apply Kd.R_alloc | apply Kd.R_drewN | apply Kd.R_drew)); exact HO_513006.out) hb); have n2_ := Aside0.mk (Kd.R_below (by (with_reducible repeat (first | apply Kd.R_alloc | apply Kd.R_drewN | apply Kd.R_drew)); exact HO_513007.out) hb); have n3_ := Aside0.mk (Kd.R_below (by (with_reducible repeat (first | apply Kd.R_alloc | apply Kd.R_drewN | apply Kd.R_drew)); exact HO_513008.out) hb); have n4_ := Aside0.mk (Kd.R_below (by (with_reducible repeat (first | apply Kd.R_alloc | apply Kd.R_drewN | apply Kd.R_drew)); exact HO_513009.out) hb); have n5_ := Aside0.mk (Kd.R_below (by (with_reducible repeat (first | apply Kd.R_alloc | apply Kd.R_drewN | apply Kd.R_drew)); exact HO521.out) hb); have n6_ := Aside0.mk (Kd.R_below (by (with_reducible repeat (first | apply Kd.R_alloc | apply Kd.R_drewN | apply Kd.R_drew)); exact HO530.out) hb); have n7_ := Aside0.mk (Kd.R_below (by (with_reducible repeat (first | apply Kd.R_alloc | apply Kd.R_drewN | apply Kd.R_drew)); exact HO533.out) hb); have n8_ := Aside0.mk (Kd.R_below (by (with_reducible repeat (first | apply Kd.R_alloc | apply Kd.R_drewN | apply Kd.R_drew)); exact HO536.out) hb); have n9_ := Aside0.mk (Kd.R_below (by (with_reducible repeat (first | apply Kd.R_alloc | apply Kd.R_drewN | apply Kd.R_drew)); exact HO539.out) hb); have n10_ := Aside0.mk (blk_below (g := gb463) (o := .cells #[.int .i64 a0_0, .int .i64 a0_1, .int .i64 a0_2, .int .i64 a0_3, .int .i64 a0_4, .int .i64 a0_5, .slice A0_6 l0_6.length c0_6, .slice A0_7 l0_7.length c0_7, .slice A0_8 l0_8.length c0_8, .slice none 0 0] 34 (0, 0)) (by (with_reducible repeat (first | refine blk_drewN ?_ _ | refine blk_drew ?_ | refine blk_alloc ?_ _)); exact BK463.out) hb); have n11_ := Aside0.mk (blk_below (g := gb512) (o := .cells #[.int .i64 t492, .int .i64 t493, .int .i64 t494, .int .i64 t495, .int .i64 t496, .int .i64 t497, .slice Ao43 t498.length co43, .slice Ao44 t501.length co44, .slice Ao45 t504.length co45, .slice Ao46 t507.length co46] 30 (0, 0)) (by (with_reducible repeat (first | refine blk_drewN ?_ _ | refine blk_drew ?_ | refine blk_alloc ?_ _)); exact BK512.out) hb); have n12_ := Aside0.mk (below_step (by repeat (first | (with_reducible first | exact HB.out | apply below_alloc | apply pw_below_drewN | apply below_drew1 | refine below_set ?_ GE463.out | refine below_set ?_ GE512.out) | exact HB.out)) hb); have n13_ := Aside0.mk (hbox); have n14_ := Aside0.mk ((by rw [hg]; exact (below_size (by repeat (first | (with_reducible first | exact HB.out | apply below_alloc | apply pw_below_drewN | apply below_drew1 | refine below_set ?_ GE463.out | refine below_set ?_ GE512.out) | exact HB.out))) : w.heap.size ≤ gb542)); have n15_ := Aside0.mk ((by rw [hg]; exact (below_size (by repeat (first | (with_reducible first | exact HB.out | apply below_alloc | apply pw_below_drewN | apply below_drew1 | refine below_set ?_ GE463.out | refine below_set ?_ GE512.out) | exact HB.out))) : w.heap.size ≤ gb542)); have n16_ := Aside0.mk ((by rw [hg]; exact Nat.ne_of_lt (blk_lt (g := gb463) (o := .cells #[.int .i64 a0_0, .int .i64 a0_1, .int .i64 a0_2, .int .i64 a0_3, .int .i64 a0_4, .int .i64 a0_5, .slice A0_6 l0_6.length c0_6, .slice A0_7 l0_7.length c0_7, .slice A0_8 l0_8.length c0_8, .slice none 0 0] 34 (0, 0)) (by (with_reducible repeat (first | refine blk_drewN ?_ _ | refine blk_drew ?_ | refine blk_alloc ?_ _)); exact BK463.out)) : gb463 ≠ gb542)); have n17_ := Aside0.mk ((by rw [hg]; exact Nat.ne_of_gt (blk_lt (g := gb463) (o := .cells #[.int .i64 a0_0, .int .i64 a0_1, .int .i64 a0_2, .int .i64 a0_3, .int .i64 a0_4, .int .i64 a0_5, .slice A0_6 l0_6.length c0_6, .slice A0_7 l0_7.length c0_7, .slice A0_8 l0_8.length c0_8, .slice none 0 0] 34 (0, 0)) (by (with_reducible repeat (first | refine blk_drewN ?_ _ | refine blk_drew ?_ | refine blk_alloc ?_ _)); exact BK463.out)) : gb542 ≠ gb463)); have n18_ := Aside0.mk ((by rw [hg]; exact Nat.ne_of_lt (blk_lt (g := gb512) (o := .cells #[.int .i64 t492, .int .i64 t493, .int .i64 t494, .int .i64 t495, .int .i64 t496, .int .i64 t497, .slice Ao43 t498.length co43, .slice Ao44 t501.length co44, .slice Ao45 t504.length co45, .slice Ao46 t507.length co46] 30 (0, 0)) (by (with_reducible repeat (first | refine blk_drewN ?_ _ | refine blk_drew ?_ | refine blk_alloc ?_ _)); exact BK512.out)) : gb512 ≠ gb542)); have n19_ := Aside0.mk ((by rw [hg]; exact Nat.ne_of_gt (blk_lt (g := gb512) (o := .cells #[.int .i64 t492, .int .i64 t493, .int .i64 t494, .int .i64 t495, .int .i64 t496, .int .i64 t497, .slice Ao43 t498.length co43, .slice Ao44 t501.length co44, .slice Ao45 t504.length co45, .slice Ao46 t507.length co46] 30 (0, 0)) (by (with_reducible repeat (first | refine blk_drewN ?_ _ | refine blk_drew ?_ | refine blk_alloc ?_ _)); exact BK512.out)) : gb542 ≠ gb512)); clear HO_7; clear HO_513006; clear HO_513007; clear HO_513008; clear HO_513009; clear HO521; clear HO530; clear HO533; clear HO536; clear HO539; clear BK463; clear BK512; clear HB; have HO_7 := n0_; have HO_513006 := n1_; have HO_513007 := n2_; have HO_513008 := n3_; have HO_513009 := n4_; have HO521 := n5_; have HO530 := n6_; have HO533 := n7_; have HO536 := n8_; have HO539 := n9_; have BK463 := n10_; have BK512 := n11_; have HB := n12_; have BK542 := n13_; have GW542 := n14_; have GE542 := n15_; have NB463_542 := n16_; have NB542_463 := n17_; have NB512_542 := n18_; have NB542_512 := n19_; clear n0_ n1_ n2_ n3_ n4_ n5_ n6_ n7_ n8_ n9_ n10_ n11_ n12_ n13_ n14_ n15_ n16_ n17_ n18_ n19_; clear hb hbox hg; have hnb60 := NB542_463.out; have hnc60 := NB463_542.out; have hnb61 := NB542_512.out; have hnc61 := NB512_542.out; have hcz62_0 : w59.cell? ⟨gb542, 0, none⟩ = some (.int .i64 0) := (blk_cell BK542.out 0).trans rfl; have hcz62_1 : w59.cell? ⟨gb542, 1, none⟩ = some (.int .i64 0) := (blk_cell BK542.out 1).trans rfl; have hcz62_2 : w59.cell? ⟨gb542, 2, none⟩ = some (.int .i64 0) := (blk_cell BK542.out 2).trans rfl; have hcz62_3 : w59.cell? ⟨gb542, 3, none⟩ = some (.int .i64 0) := (blk_cell BK542.out 3).trans rfl; have hcz62_4 : w59.cell? ⟨gb542, 4, none⟩ = some (.int .i64 0) := (blk_cell BK542.out 4).trans rfl; have hcz62_5 : w59.cell? ⟨gb542, 5, none⟩ = some (.int .i64 0) := (blk_cell BK542.out 5).trans rfl; have hcz62_6 : w59.cell? ⟨gb542, 6, none⟩ = some (.slice none 0 0) := (blk_cell BK542.out 6).trans rfl; have hcz62_7 : w59.cell? ⟨gb542, 7, none⟩ = some (.slice none 0 0) := (blk_cell BK542.out 7).trans rfl; have hcz62_8 : w59.cell? ⟨gb542, 8, none⟩ = some (.slice none 0 0) := (blk_cell BK542.out 8).trans rfl; have hcz62_9 : w59.cell? ⟨gb542, 9, none⟩ = some (.slice none 0 0) := (blk_cell BK542.out 9).trans rfl; have hfz62_0 := blk_frozen BK542.out 0; have hfz62_1 := blk_frozen BK542.out 1; have hfz62_2 := blk_frozen BK542.out 2; have hfz62_3 := blk_frozen BK542.out 3; have hfz62_4 := blk_frozen BK542.out 4; have hfz62_5 := blk_frozen BK542.out 5; have hfz62_6 := blk_frozen BK542.out 6; have hfz62_7 := blk_frozen BK542.out 7; have hfz62_8 := blk_frozen BK542.out 8; have hfz62_9 := blk_frozen BK542.out 9; obtain ⟨Ao63, co63, eo63⟩ := Kd.R_slice HO530.out; subst eo63; obtain ⟨Ao64, co64, eo64⟩ := Kd.R_slice HO533.out; subst eo64; obtain ⟨Ao65, co65, eo65⟩ := Kd.R_slice HO536.out; subst eo65; obtain ⟨Ao66, co66, eo66⟩ := Kd.R_slice HO539.out; subst eo66) | ((with_reducible refine gate_store (t := 30) (p := 13) rfl ?_); (try (rw [drewN_self w59]; generalize hq_ : World.drewN w59 _ = w59; have n0_ := Aside0.mk (Kd.R_at hq_ HO_7.out); have n1_ := Aside0.mk (Kd.R_at hq_ HO_513006.out); have n2_ := Aside0.mk (Kd.R_at hq_ HO_513007.out); have n3_ := Aside0.mk (Kd.R_at hq_ HO_513008.out); have n4_ := Aside0.mk (Kd.R_at hq_ HO_513009.out); have n5_ := Aside0.mk (Kd.R_at hq_ HO521.out); have n6_ := Aside0.mk (Kd.R_at hq_ HO530.out); have n7_ := Aside0.mk (Kd.R_at hq_ HO533.out); have n8_ := Aside0.mk (Kd.R_at hq_ HO536.out); have n9_ := Aside0.mk (Kd.R_at hq_ HO539.out); have n10_ := Aside0.mk (blk_at hq_ BK463.out); have n11_ := Aside0.mk (blk_at hq_ BK512.out); have n12_ := Aside0.mk (blk_at hq_ BK542.out); have n13_ := Aside0.mk (below_at hq_ HB.out); clear hq_ HO_7 HO_513006 HO_513007 HO_513008 HO_513009 HO521 HO530 HO533 HO536 HO539 BK463 BK512 BK542 HB; have HO_7 := n0_; have HO_513006 := n1_; have HO_513007 := n2_; have HO_513008 := n3_; have HO_513009 := n4_; have HO521 := n5_; have HO530 := n6_; have HO533 := n7_; have HO536 := n8_; have HO539 := n9_; have BK463 := n10_; have BK512 := n11_; have BK542 := n12_; have HB := n13_; clear n0_ n1_ n2_ n3_ n4_ n5_ n6_ n7_ n8_ n9_ n10_ n11_ n12_ n13_)); refine store_event (t := 30) (p := 13) (v := ?vo_w67) (w1 := ((((((((((w59.setCell ⟨gb542, 0, none⟩ (.int .i64 t522)).setCell ⟨gb542, 1, none⟩ (.int .i64 t523)).setCell ⟨gb542, 2, none⟩ (.int .i64 t524)).setCell ⟨gb542, 3, none⟩ (.int .i64 t525)).setCell ⟨gb542, 4, none⟩ (.int .i64 t526)).setCell ⟨gb542, 5, none⟩ (.int .i64 t527)).setCell ⟨gb542, 6, none⟩ (.slice Ao63 t528.length co63)).setCell ⟨gb542, 7, none⟩ (.slice Ao64 t531.length co64)).setCell ⟨gb542, 8, none⟩ (.slice Ao65 t534.length co65)).setCell ⟨gb542, 9, none⟩ (.slice Ao66 t537.length co66))) ?hg ?ho ?hn ?hr ?_; (case ho => rfl); (case hg => rfl); (case hn => rfl); (case hr => first | (go_simp; done) | (go_simp; rfl)); intro w67 hw; have n0_ : Aside0 (Kd.R (Kd.int .u8) 5 w67 w.heap.size (fun k_ => some k_ ≠ (.slice Ao44 t501.length co44 : Value).ownBlock ∧ some k_ ≠ (.slice Ao57 y519.length co57 : Value).ownBlock ∧ some k_ ≠ (.slice Ao64 t531.length co64 : Value).ownBlock) (.slice Ao37 t484.length co37) t484) := ⟨(by rw [hw]; exact (by (with_reducible repeat (first | apply Kd.R_alloc | apply Kd.R_drewN | apply Kd.R_drew)); exact Kd.R_mono (Kd.R_far (p := ⟨gb542, 9, none⟩) (Kd.R_far (p := ⟨gb542, 8, none⟩) (Kd.R_far (p := ⟨gb542, 7, none⟩) (Kd.R_far (p := ⟨gb542, 6, none⟩) (Kd.R_far (p := ⟨gb542, 5, none⟩) (Kd.R_far (p := ⟨gb542, 4, none⟩) (Kd.R_far (p := ⟨gb542, 3, none⟩) (Kd.R_far (p := ⟨gb542, 2, none⟩) (Kd.R_far (p := ⟨gb542, 1, none⟩) (Kd.R_far (p := ⟨gb542, 0, none⟩) (Kd.R_types HO_7.out BK542.out (by decide)) (fun _ hk => hk.2) (.int .i64 t522)) (fun _ hk => hk.2) (.int .i64 t523)) (fun _ hk => hk.2) (.int .i64 t524)) (fun _ hk => hk.2) (.int .i64 t525)) (fun _ hk => hk.2) (.int .i64 t526)) (fun _ hk => hk.2) (.int .i64 t527)) (fun _ hk => hk.2) (.slice Ao63 t528.length co63)) (fun _ hk => hk.2) (.slice Ao64 t531.length co64)) (fun _ hk => hk.2) (.slice Ao65 t534.length co65)) (fun _ hk => hk.2) (.slice Ao66 t537.length co66)) (fun _ hk => ⟨hk.1.1.1, ⟨hk.1.1.2, hk.1.2⟩⟩)))⟩; have n1_ : Aside0 (Kd.R (Kd.int .i64) 2 w67 w.heap.size (fun k_ => some k_ ≠ (.slice Ao63 t528.length co63 : Value).ownBlock) (.slice Ao43 t498.length co43) t498) := ⟨(by rw [hw]; exact (by (with_reducible repeat (first | apply Kd.R_alloc | apply Kd.R_drewN | apply Kd.R_drew)); exact Kd.R_mono (Kd.R_far (p := ⟨gb542, 9, none⟩) (Kd.R_far (p := ⟨gb542, 8, none⟩) (Kd.R_far (p := ⟨gb542, 7, none⟩) (Kd.R_far (p := ⟨gb542, 6, none⟩) (Kd.R_far (p := ⟨gb542, 5, none⟩) (Kd.R_far (p := ⟨gb542, 4, none⟩) (Kd.R_far (p := ⟨gb542, 3, none⟩) (Kd.R_far (p := ⟨gb542, 2, none⟩) (Kd.R_far (p := ⟨gb542, 1, none⟩) (Kd.R_far (p := ⟨gb542, 0, none⟩) (Kd.R_types HO_513006.out BK542.out (by decide)) (fun _ hk => hk.2) (.int .i64 t522)) (fun _ hk => hk.2) (.int .i64 t523)) (fun _ hk => hk.2) (.int .i64 t524)) (fun _ hk => hk.2) (.int .i64 t525)) (fun _ hk => hk.2) (.int .i64 t526)) (fun _ hk => hk.2) (.int .i64 t527)) (fun _ hk => hk.2) (.slice Ao63 t528.length co63)) (fun _ hk => hk.2) (.slice Ao64 t531.length co64)) (fun _ hk => hk.2) (.slice Ao65 t534.length co65)) (fun _ hk => hk.2) (.slice Ao66 t537.length co66)) (fun _ hk => hk.1.2)))⟩; have n2_ : Aside0 (Kd.R (Kd.int .u8) 5 w67 w.heap.size (fun k_ => some k_ ≠ (.slice Ao37 t484.length co37 : Value).ownBlock ∧ some k_ ≠ (.slice Ao57 y519.length co57 : Value).ownBlock ∧ some k_ ≠ (.slice Ao64 t531.length co64 : Value).ownBlock) (.slice Ao44 t501.length co44) t501) := ⟨(by rw [hw]; exact (by (with_reducible repeat (first | apply Kd.R_alloc | apply Kd.R_drewN | apply Kd.R_drew)); exact Kd.R_mono (Kd.R_far (p := ⟨gb542, 9, none⟩) (Kd.R_far (p := ⟨gb542, 8, none⟩) (Kd.R_far (p := ⟨gb542, 7, none⟩) (Kd.R_far (p := ⟨gb542, 6, none⟩) (Kd.R_far (p := ⟨gb542, 5, none⟩) (Kd.R_far (p := ⟨gb542, 4, none⟩) (Kd.R_far (p := ⟨gb542, 3, none⟩) (Kd.R_far (p := ⟨gb542, 2, none⟩) (Kd.R_far (p := ⟨gb542, 1, none⟩) (Kd.R_far (p := ⟨gb542, 0, none⟩) (Kd.R_types HO_513007.out BK542.out (by decide)) (fun _ hk => hk.2) (.int .i64 t522)) (fun _ hk => hk.2) (.int .i64 t523)) (fun _ hk => hk.2) (.int .i64 t524)) (fun _ hk => hk.2) (.int .i64 t525)) (fun _ hk => hk.2) (.int .i64 t526)) (fun _ hk => hk.2) (.int .i64 t527)) (fun _ hk => hk.2) (.slice Ao63 t528.length co63)) (fun _ hk => hk.2) (.slice Ao64 t531.length co64)) (fun _ hk => hk.2) (.slice Ao65 t534.length co65)) (fun _ hk => hk.2) (.slice Ao66 t537.length co66)) (fun _ hk => ⟨hk.1.1.1, ⟨hk.1.1.2, hk.1.2⟩⟩)))⟩; have n3_ : Aside0 (Kd.R (Kd.slice 61 (Kd.slice 80 k80)) 60 w67 w.heap.size (fun k_ => some k_ ≠ (.slice Ao65 t534.length co65 : Value).ownBlock) (.slice Ao45 t504.length co45) t504) := ⟨(by rw [hw]; exact (by (with_reducible repeat (first | apply Kd.R_alloc | apply Kd.R_drewN | apply Kd.R_drew)); exact Kd.R_mono (Kd.R_far (p := ⟨gb542, 9, none⟩) (Kd.R_far (p := ⟨gb542, 8, none⟩) (Kd.R_far (p := ⟨gb542, 7, none⟩) (Kd.R_far (p := ⟨gb542, 6, none⟩) (Kd.R_far (p := ⟨gb542, 5, none⟩) (Kd.R_far (p := ⟨gb542, 4, none⟩) (Kd.R_far (p := ⟨gb542, 3, none⟩) (Kd.R_far (p := ⟨gb542, 2, none⟩) (Kd.R_far (p := ⟨gb542, 1, none⟩) (Kd.R_far (p := ⟨gb542, 0, none⟩) (Kd.R_types HO_513008.out BK542.out (by decide)) (fun _ hk => hk.2) (.int .i64 t522)) (fun _ hk => hk.2) (.int .i64 t523)) (fun _ hk => hk.2) (.int .i64 t524)) (fun _ hk => hk.2) (.int .i64 t525)) (fun _ hk => hk.2) (.int .i64 t526)) (fun _ hk => hk.2) (.int .i64 t527)) (fun _ hk => hk.2) (.slice Ao63 t528.length co63)) (fun _ hk => hk.2) (.slice Ao64 t531.length co64)) (fun _ hk => hk.2) (.slice Ao65 t534.length co65)) (fun _ hk => hk.2) (.slice Ao66 t537.length co66)) (fun _ hk => hk.1.2)))⟩; have n4_ : Aside0 (Kd.R (Kd.int .i64) 3 w67 w.heap.size (fun k_ => some k_ ≠ (.slice Ao66 t537.length co66 : Value).ownBlock) (.slice Ao46 t507.length co46) t507) := ⟨(by rw [hw]; exact (by (with_reducible repeat (first | apply Kd.R_alloc | apply Kd.R_drewN | apply Kd.R_drew)); exact Kd.R_mono (Kd.R_far (p := ⟨gb542, 9, none⟩) (Kd.R_far (p := ⟨gb542, 8, none⟩) (Kd.R_far (p := ⟨gb542, 7, none⟩) (Kd.R_far (p := ⟨gb542, 6, none⟩) (Kd.R_far (p := ⟨gb542, 5, none⟩) (Kd.R_far (p := ⟨gb542, 4, none⟩) (Kd.R_far (p := ⟨gb542, 3, none⟩) (Kd.R_far (p := ⟨gb542, 2, none⟩) (Kd.R_far (p := ⟨gb542, 1, none⟩) (Kd.R_far (p := ⟨gb542, 0, none⟩) (Kd.R_types HO_513009.out BK542.out (by decide)) (fun _ hk => hk.2) (.int .i64 t522)) (fun _ hk => hk.2) (.int .i64 t523)) (fun _ hk => hk.2) (.int .i64 t524)) (fun _ hk => hk.2) (.int .i64 t525)) (fun _ hk => hk.2) (.int .i64 t526)) (fun _ hk => hk.2) (.int .i64 t527)) (fun _ hk => hk.2) (.slice Ao63 t528.length co63)) (fun _ hk => hk.2) (.slice Ao64 t531.length co64)) (fun _ hk => hk.2) (.slice Ao65 t534.length co65)) (fun _ hk => hk.2) (.slice Ao66 t537.length co66)) (fun _ hk => hk.1.2)))⟩; have n5_ : Aside0 (Kd.R (Kd.int .u8) 5 w67 w.heap.size (fun k_ => some k_ ≠ (.slice Ao37 t484.length co37 : Value).ownBlock ∧ some k_ ≠ (.slice Ao44 t501.length co44 : Value).ownBlock ∧ some k_ ≠ (.slice Ao64 t531.length co64 : Value).ownBlock) (.slice Ao57 y519.length co57) y519) := ⟨(by rw [hw]; exact (by (with_reducible repeat (first | apply Kd.R_alloc | apply Kd.R_drewN | apply Kd.R_drew)); exact Kd.R_mono (Kd.R_far (p := ⟨gb542, 9, none⟩) (Kd.R_far (p := ⟨gb542, 8, none⟩) (Kd.R_far (p := ⟨gb542, 7, none⟩) (Kd.R_far (p := ⟨gb542, 6, none⟩) (Kd.R_far (p := ⟨gb542, 5, none⟩) (Kd.R_far (p := ⟨gb542, 4, none⟩) (Kd.R_far (p := ⟨gb542, 3, none⟩) (Kd.R_far (p := ⟨gb542, 2, none⟩) (Kd.R_far (p := ⟨gb542, 1, none⟩) (Kd.R_far (p := ⟨gb542, 0, none⟩) (Kd.R_types HO521.out BK542.out (by decide)) (fun _ hk => hk.2) (.int .i64 t522)) (fun _ hk => hk.2) (.int .i64 t523)) (fun _ hk => hk.2) (.int .i64 t524)) (fun _ hk => hk.2) (.int .i64 t525)) (fun _ hk => hk.2) (.int .i64 t526)) (fun _ hk => hk.2) (.int .i64 t527)) (fun _ hk => hk.2) (.slice Ao63 t528.length co63)) (fun _ hk => hk.2) (.slice Ao64 t531.length co64)) (fun _ hk => hk.2) (.slice Ao65 t534.length co65)) (fun _ hk => hk.2) (.slice Ao66 t537.length co66)) (fun _ hk => ⟨hk.1.1.1, ⟨hk.1.1.2, hk.1.2⟩⟩)))⟩; have n6_ : Aside0 (Kd.R (Kd.int .i64) 2 w67 w.heap.size (fun k_ => some k_ ≠ (.slice Ao43 t498.length co43 : Value).ownBlock) (.slice Ao63 t528.length co63) t528) := ⟨(by rw [hw]; exact (by (with_reducible repeat (first | apply Kd.R_alloc | apply Kd.R_drewN | apply Kd.R_drew)); exact Kd.R_mono (Kd.R_far (p := ⟨gb542, 9, none⟩) (Kd.R_far (p := ⟨gb542, 8, none⟩) (Kd.R_far (p := ⟨gb542, 7, none⟩) (Kd.R_far (p := ⟨gb542, 6, none⟩) (Kd.R_far (p := ⟨gb542, 5, none⟩) (Kd.R_far (p := ⟨gb542, 4, none⟩) (Kd.R_far (p := ⟨gb542, 3, none⟩) (Kd.R_far (p := ⟨gb542, 2, none⟩) (Kd.R_far (p := ⟨gb542, 1, none⟩) (Kd.R_far (p := ⟨gb542, 0, none⟩) (Kd.R_types HO530.out BK542.out (by decide)) (fun _ hk => hk.2) (.int .i64 t522)) (fun _ hk => hk.2) (.int .i64 t523)) (fun _ hk => hk.2) (.int .i64 t524)) (fun _ hk => hk.2) (.int .i64 t525)) (fun _ hk => hk.2) (.int .i64 t526)) (fun _ hk => hk.2) (.int .i64 t527)) (fun _ hk => hk.2) (.slice Ao63 t528.length co63)) (fun _ hk => hk.2) (.slice Ao64 t531.length co64)) (fun _ hk => hk.2) (.slice Ao65 t534.length co65)) (fun _ hk => hk.2) (.slice Ao66 t537.length co66)) (fun _ hk => hk.1.2)))⟩; have n7_ : Aside0 (Kd.R (Kd.int .u8) 5 w67 w.heap.size (fun k_ => some k_ ≠ (.slice Ao37 t484.length co37 : Value).ownBlock ∧ some k_ ≠ (.slice Ao44 t501.length co44 : Value).ownBlock ∧ some k_ ≠ (.slice Ao57 y519.length co57 : Value).ownBlock) (.slice Ao64 t531.length co64) t531) := ⟨(by rw [hw]; exact (by (with_reducible repeat (first | apply Kd.R_alloc | apply Kd.R_drewN | apply Kd.R_drew)); exact Kd.R_mono (Kd.R_far (p := ⟨gb542, 9, none⟩) (Kd.R_far (p := ⟨gb542, 8, none⟩) (Kd.R_far (p := ⟨gb542, 7, none⟩) (Kd.R_far (p := ⟨gb542, 6, none⟩) (Kd.R_far (p := ⟨gb542, 5, none⟩) (Kd.R_far (p := ⟨gb542, 4, none⟩) (Kd.R_far (p := ⟨gb542, 3, none⟩) (Kd.R_far (p := ⟨gb542, 2, none⟩) (Kd.R_far (p := ⟨gb542, 1, none⟩) (Kd.R_far (p := ⟨gb542, 0, none⟩) (Kd.R_types HO533.out BK542.out (by decide)) (fun _ hk => hk.2) (.int .i64 t522)) (fun _ hk => hk.2) (.int .i64 t523)) (fun _ hk => hk.2) (.int .i64 t524)) (fun _ hk => hk.2) (.int .i64 t525)) (fun _ hk => hk.2) (.int .i64 t526)) (fun _ hk => hk.2) (.int .i64 t527)) (fun _ hk => hk.2) (.slice Ao63 t528.length co63)) (fun _ hk => hk.2) (.slice Ao64 t531.length co64)) (fun _ hk => hk.2) (.slice Ao65 t534.length co65)) (fun _ hk => hk.2) (.slice Ao66 t537.length co66)) (fun _ hk => ⟨hk.1.1.1.2, ⟨hk.1.1.2, hk.1.2⟩⟩)))⟩; have n8_ : Aside0 (Kd.R (Kd.slice 61 (Kd.slice 80 k80)) 60 w67 w.heap.size (fun k_ => some k_ ≠ (.slice Ao45 t504.length co45 : Value).ownBlock) (.slice Ao65 t534.length co65) t534) := ⟨(by rw [hw]; exact (by (with_reducible repeat (first | apply Kd.R_alloc | apply Kd.R_drewN | apply Kd.R_drew)); exact Kd.R_mono (Kd.R_far (p := ⟨gb542, 9, none⟩) (Kd.R_far (p := ⟨gb542, 8, none⟩) (Kd.R_far (p := ⟨gb542, 7, none⟩) (Kd.R_far (p := ⟨gb542, 6, none⟩) (Kd.R_far (p := ⟨gb542, 5, none⟩) (Kd.R_far (p := ⟨gb542, 4, none⟩) (Kd.R_far (p := ⟨gb542, 3, none⟩) (Kd.R_far (p := ⟨gb542, 2, none⟩) (Kd.R_far (p := ⟨gb542, 1, none⟩) (Kd.R_far (p := ⟨gb542, 0, none⟩) (Kd.R_types HO536.out BK542.out (by decide)) (fun _ hk => hk.2) (.int .i64 t522)) (fun _ hk => hk.2) (.int .i64 t523)) (fun _ hk => hk.2) (.int .i64 t524)) (fun _ hk => hk.2) (.int .i64 t525)) (fun _ hk => hk.2) (.int .i64 t526)) (fun _ hk => hk.2) (.int .i64 t527)) (fun _ hk => hk.2) (.slice Ao63 t528.length co63)) (fun _ hk => hk.2) (.slice Ao64 t531.length co64)) (fun _ hk => hk.2) (.slice Ao65 t534.length co65)) (fun _ hk => hk.2) (.slice Ao66 t537.length co66)) (fun _ hk => hk.1.2)))⟩; have n9_ : Aside0 (Kd.R (Kd.int .i64) 3 w67 w.heap.size (fun k_ => some k_ ≠ (.slice Ao46 t507.length co46 : Value).ownBlock) (.slice Ao66 t537.length co66) t537) := ⟨(by rw [hw]; exact (by (with_reducible repeat (first | apply Kd.R_alloc | apply Kd.R_drewN | apply Kd.R_drew)); exact Kd.R_mono (Kd.R_far (p := ⟨gb542, 9, none⟩) (Kd.R_far (p := ⟨gb542, 8, none⟩) (Kd.R_far (p := ⟨gb542, 7, none⟩) (Kd.R_far (p := ⟨gb542, 6, none⟩) (Kd.R_far (p := ⟨gb542, 5, none⟩) (Kd.R_far (p := ⟨gb542, 4, none⟩) (Kd.R_far (p := ⟨gb542, 3, none⟩) (Kd.R_far (p := ⟨gb542, 2, none⟩) (Kd.R_far (p := ⟨gb542, 1, none⟩) (Kd.R_far (p := ⟨gb542, 0, none⟩) (Kd.R_types HO539.out BK542.out (by decide)) (fun _ hk => hk.2) (.int .i64 t522)) (fun _ hk => hk.2) (.int .i64 t523)) (fun _ hk => hk.2) (.int .i64 t524)) (fun _ hk => hk.2) (.int .i64 t525)) (fun _ hk => hk.2) (.int .i64 t526)) (fun _ hk => hk.2) (.int .i64 t527)) (fun _ hk => hk.2) (.slice Ao63 t528.length co63)) (fun _ hk => hk.2) (.slice Ao64 t531.length co64)) (fun _ hk => hk.2) (.slice Ao65 t534.length co65)) (fun _ hk => hk.2) (.slice Ao66 t537.length co66)) (fun _ hk => hk.1.2)))⟩; have n10_ : Aside0 (w67.heap[gb463]? = some (.cells #[.int .i64 a0_0, .int .i64 a0_1, .int .i64 a0_2, .int .i64 a0_3, .int .i64 a0_4, .int .i64 a0_5, .slice A0_6 l0_6.length c0_6, .slice A0_7 l0_7.length c0_7, .slice A0_8 l0_8.length c0_8, .slice none 0 0] 34 (0, 0))) := ⟨(by rw [hw]; exact (by (with_reducible repeat (first | refine blk_drewN ?_ _ | refine blk_drew ?_ | refine blk_alloc ?_ _)); refine blk_far ?_ NB463_542.out _; (with_reducible repeat (first | refine blk_drewN ?_ _ | refine blk_drew ?_ | refine blk_alloc ?_ _)); refine blk_far ?_ NB463_542.out _; (with_reducible repeat (first | refine blk_drewN ?_ _ | refine blk_drew ?_ | refine blk_alloc ?_ _)); refine blk_far ?_ NB463_542.out _; (with_reducible repeat (first | refine blk_drewN ?_ _ | refine blk_drew ?_ | refine blk_alloc ?_ _)); refine blk_far ?_ NB463_542.out _; (with_reducible repeat (first | refine blk_drewN ?_ _ | refine blk_drew ?_ | refine blk_alloc ?_ _)); refine blk_far ?_ NB463_542.out _; (with_reducible repeat (first | refine blk_drewN ?_ _ | refine blk_drew ?_ | refine blk_alloc ?_ _)); refine blk_far ?_ NB463_542.out _; (with_reducible repeat (first | refine blk_drewN ?_ _ | refine blk_drew ?_ | refine blk_alloc ?_ _)); refine blk_far ?_ NB463_542.out _; (with_reducible repeat (first | refine blk_drewN ?_ _ | refine blk_drew ?_ | refine blk_alloc ?_ _)); refine blk_far ?_ NB463_542.out _; (with_reducible repeat (first | refine blk_drewN ?_ _ | refine blk_drew ?_ | refine blk_alloc ?_ _)); refine blk_far ?_ NB463_542.out _; (with_reducible repeat (first | refine blk_drewN ?_ _ | refine blk_drew ?_ | refine blk_alloc ?_ _)); refine blk_far ?_ NB463_542.out _; (with_reducible repeat (first | refine blk_drewN ?_ _ | refine blk_drew ?_ | refine blk_alloc ?_ _)); exact BK463.out))⟩; have n11_ : Aside0 (w67.heap[gb512]? = some (.cells #[.int .i64 t492, .int .i64 t493, .int .i64 t494, .int .i64 t495, .int .i64 t496, .int .i64 t497, .slice Ao43 t498.length co43, .slice Ao44 t501.length co44, .slice Ao45 t504.length co45, .slice Ao46 t507.length co46] 30 (0, 0))) := ⟨(by rw [hw]; exact (by (with_reducible repeat (first | refine blk_drewN ?_ _ | refine blk_drew ?_ | refine blk_alloc ?_ _)); refine blk_far ?_ NB512_542.out _; (with_reducible repeat (first | refine blk_drewN ?_ _ | refine blk_drew ?_ | refine blk_alloc ?_ _)); refine blk_far ?_ NB512_542.out _; (with_reducible repeat (first | refine blk_drewN ?_ _ | refine blk_drew ?_ | refine blk_alloc ?_ _)); refine blk_far ?_ NB512_542.out _; (with_reducible repeat (first | refine blk_drewN ?_ _ | refine blk_drew ?_ | refine blk_alloc ?_ _)); refine blk_far ?_ NB512_542.out _; (with_reducible repeat (first | refine blk_drewN ?_ _ | refine blk_drew ?_ | refine blk_alloc ?_ _)); refine blk_far ?_ NB512_542.out _; (with_reducible repeat (first | refine blk_drewN ?_ _ | refine blk_drew ?_ | refine blk_alloc ?_ _)); refine blk_far ?_ NB512_542.out _; (with_reducible repeat (first | refine blk_drewN ?_ _ | refine blk_drew ?_ | refine blk_alloc ?_ _)); refine blk_far ?_ NB512_542.out _; (with_reducible repeat (first | refine blk_drewN ?_ _ | refine blk_drew ?_ | refine blk_alloc ?_ _)); refine blk_far ?_ NB512_542.out _; (with_reducible repeat (first | refine blk_drewN ?_ _ | refine blk_drew ?_ | refine blk_alloc ?_ _)); refine blk_far ?_ NB512_542.out _; (with_reducible repeat (first | refine blk_drewN ?_ _ | refine blk_drew ?_ | refine blk_alloc ?_ _)); refine blk_far ?_ NB512_542.out _; (with_reducible repeat (first | refine blk_drewN ?_ _ | refine blk_drew ?_ | refine blk_alloc ?_ _)); exact BK512.out))⟩; have n12_ : Aside0 (w67.heap[gb542]? = some (.cells #[.int .i64 t522, .int .i64 t523, .int .i64 t524, .int .i64 t525, .int .i64 t526, .int .i64 t527, .slice Ao63 t528.length co63, .slice Ao64 t531.length co64, .slice Ao65 t534.length co65, .slice Ao66 t537.length co66] 30 (0, 0))) := ⟨(by rw [hw]; exact (by (with_reducible repeat (first | refine blk_drewN ?_ _ | refine blk_drew ?_ | refine blk_alloc ?_ _)); refine blk_put (cs := #[.int .i64 t522, .int .i64 t523, .int .i64 t524, .int .i64 t525, .int .i64 t526, .int .i64 t527, .slice Ao63 t528.length co63, .slice Ao64 t531.length co64, .slice Ao65 t534.length co65, .slice none 0 0]) ?_ 9 _ rfl; (with_reducible repeat (first | refine blk_drewN ?_ _ | refine blk_drew ?_ | refine blk_alloc ?_ _)); refine blk_put (cs := #[.int .i64 t522, .int .i64 t523, .int .i64 t524, .int .i64 t525, .int .i64 t526, .int .i64 t527, .slice Ao63 t528.length co63, .slice Ao64 t531.length co64, .slice none 0 0, .slice none 0 0]) ?_ 8 _ rfl; (with_reducible repeat (first | refine blk_drewN ?_ _ | refine blk_drew ?_ | refine blk_alloc ?_ _)); refine blk_put (cs := #[.int .i64 t522, .int .i64 t523, .int .i64 t524, .int .i64 t525, .int .i64 t526, .int .i64 t527, .slice Ao63 t528.length co63, .slice none 0 0, .slice none 0 0, .slice none 0 0]) ?_ 7 _ rfl; (with_reducible repeat (first | refine blk_drewN ?_ _ | refine blk_drew ?_ | refine blk_alloc ?_ _)); refine blk_put (cs := #[.int .i64 t522, .int .i64 t523, .int .i64 t524, .int .i64 t525, .int .i64 t526, .int .i64 t527, .slice none 0 0, .slice none 0 0, .slice none 0 0, .slice none 0 0]) ?_ 6 _ rfl; (with_reducible repeat (first | refine blk_drewN ?_ _ | refine blk_drew ?_ | refine blk_alloc ?_ _)); refine blk_put (cs := #[.int .i64 t522, .int .i64 t523, .int .i64 t524, .int .i64 t525, .int .i64 t526, .int .i64 0, .slice none 0 0, .slice none 0 0, .slice none 0 0, .slice none 0 0]) ?_ 5 _ rfl; (with_reducible repeat (first | refine blk_drewN ?_ _ | refine blk_drew ?_ | refine blk_alloc ?_ _)); refine blk_put (cs := #[.int .i64 t522, .int .i64 t523, .int .i64 t524, .int .i64 t525, .int .i64 0, .int .i64 0, .slice none 0 0, .slice none 0 0, .slice none 0 0, .slice none 0 0]) ?_ 4 _ rfl; (with_reducible repeat (first | refine blk_drewN ?_ _ | refine blk_drew ?_ | refine blk_alloc ?_ _)); refine blk_put (cs := #[.int .i64 t522, .int .i64 t523, .int .i64 t524, .int .i64 0, .int .i64 0, .int .i64 0, .slice none 0 0, .slice none 0 0, .slice none 0 0, .slice none 0 0]) ?_ 3 _ rfl; (with_reducible repeat (first | refine blk_drewN ?_ _ | refine blk_drew ?_ | refine blk_alloc ?_ _)); refine blk_put (cs := #[.int .i64 t522, .int .i64 t523, .int .i64 0, .int .i64 0, .int .i64 0, .int .i64 0, .slice none 0 0, .slice none 0 0, .slice none 0 0, .slice none 0 0]) ?_ 2 _ rfl; (with_reducible repeat (first | refine blk_drewN ?_ _ | refine blk_drew ?_ | refine blk_alloc ?_ _)); refine blk_put (cs := #[.int .i64 t522, .int .i64 0, .int .i64 0, .int .i64 0, .int .i64 0, .int .i64 0, .slice none 0 0, .slice none 0 0, .slice none 0 0, .slice none 0 0]) ?_ 1 _ rfl; (with_reducible repeat (first | refine blk_drewN ?_ _ | refine blk_drew ?_ | refine blk_alloc ?_ _)); refine blk_put (cs := #[.int .i64 0, .int .i64 0, .int .i64 0, .int .i64 0, .int .i64 0, .int .i64 0, .slice none 0 0, .slice none 0 0, .slice none 0 0, .slice none 0 0]) ?_ 0 _ rfl; (with_reducible repeat (first | refine blk_drewN ?_ _ | refine blk_drew ?_ | refine blk_alloc ?_ _)); exact BK542.out))⟩; have n13_ : Aside0 (Below w.heap.size w w67) := ⟨(by rw [hw]; exact (by repeat (first | (with_reducible first | exact HB.out | apply below_alloc | apply pw_below_drewN | apply below_drew1 | refine below_set ?_ GE463.out | refine below_set ?_ GE512.out | refine below_set ?_ GE542.out) | exact HB.out)))⟩; clear hw; clear HO_7; clear HO_513006; clear HO_513007; clear HO_513008; clear HO_513009; clear HO521; clear HO530; clear HO533; clear HO536; clear HO539; clear BK463; clear BK512; clear BK542; clear HB; have HO_7 := n0_; have HO_513006 := n1_; have HO_513007 := n2_; have HO_513008 := n3_; have HO_513009 := n4_; have HO521 := n5_; have HO530 := n6_; have HO533 := n7_; have HO536 := n8_; have HO539 := n9_; have BK463 := n10_; have BK512 := n11_; have BK542 := n12_; have HB := n13_; clear n0_ n1_ n2_ n3_ n4_ n5_ n6_ n7_ n8_ n9_ n10_ n11_ n12_ n13_))
                (try simp only [Act.put, List.setIfInBounds_toArray, List.set_cons_zero, List.set_cons_succ])
                go_cut [81] (fun v81 wc => ∃ (kq : Nat) (x81_51 : Bool), v81 = .bool x81_51 ∧ Aside0 (quarrellaw20_ScriptCut.j3 kq l2 x81_51 t522 t523 t524 t525 t526 t527 t528 t531 t534 t537 = some r) ∧ Aside0 (kq ≤ kj35) ∧ Aside0 (Kd.R (Kd.int .i64) 2 wc w.heap.size (fun k_ => some k_ ≠ ((.slice Ao63 t528.length co63) : Value).ownBlock) (.slice Ao43 t498.length co43) t498) ∧ Aside0 (Kd.R (Kd.int .u8) 5 wc w.heap.size (fun k_ => some k_ ≠ ((.slice Ao64 t531.length co64) : Value).ownBlock) (.slice Ao44 t501.length co44) t501) ∧ Aside0 (Kd.R (Kd.slice 61 (Kd.slice 80 k80)) 60 wc w.heap.size (fun k_ => some k_ ≠ ((.slice Ao65 t534.length co65) : Value).ownBlock) (.slice Ao45 t504.length co45) t504) ∧ Aside0 (Kd.R (Kd.int .i64) 3 wc w.heap.size (fun k_ => some k_ ≠ ((.slice Ao66 t537.length co66) : Value).ownBlock) (.slice Ao46 t507.length co46) t507) ∧ Aside0 (Kd.R (Kd.int .i64) 2 wc w.heap.size (fun k_ => some k_ ≠ ((.slice Ao43 t498.length co43) : Value).ownBlock) (.slice Ao63 t528.length co63) t528) ∧ Aside0 (Kd.R (Kd.int .u8) 5 wc w.heap.size (fun k_ => some k_ ≠ ((.slice Ao44 t501.length co44) : Value).ownBlock) (.slice Ao64 t531.length co64) t531) ∧ Aside0 (Kd.R (Kd.slice 61 (Kd.slice 80 k80)) 60 wc w.heap.size (fun k_ => some k_ ≠ ((.slice Ao45 t504.length co45) : Value).ownBlock) (.slice Ao65 t534.length co65) t534) ∧ Aside0 (Kd.R (Kd.int .i64) 3 wc w.heap.size (fun k_ => some k_ ≠ ((.slice Ao46 t507.length co46) : Value).ownBlock) (.slice Ao66 t537.length co66) t537) ∧ Aside0 (wc.heap[gb463]? = some (.cells #[.int .i64 a0_0, .int .i64 a0_1, .int .i64 a0_2, .int .i64 a0_3, .int .i64 a0_4, .int .i64 a0_5, (.slice A0_6 l0_6.length c0_6), (.slice A0_7 l0_7.length c0_7), (.slice A0_8 l0_8.length c0_8), (.slice none 0 0)] 34 (0, 0))) ∧ Aside0 (wc.heap[gb512]? = some (.cells #[.int .i64 t492, .int .i64 t493, .int .i64 t494, .int .i64 t495, .int .i64 t496, .int .i64 t497, (.slice Ao43 t498.length co43), (.slice Ao44 t501.length co44), (.slice Ao45 t504.length co45), (.slice Ao46 t507.length co46)] 30 (0, 0))) ∧ Aside0 (wc.heap[gb542]? = some (.cells #[.int .i64 t522, .int .i64 t523, .int .i64 t524, .int .i64 t525, .int .i64 t526, .int .i64 t527, (.slice Ao63 t528.length co63), (.slice Ao64 t531.length co64), (.slice Ao65 t534.length co65), (.slice Ao66 t537.length co66)] 30 (0, 0))) ∧ Aside0 (Below w.heap.size w wc))
                case first =>
                 have H := HC52.out
                 clear HC52
                 by_cases c68 : t541 = 0
                 ·rw [if_pos c68] at H
                  have c68b0 : (t541 == 0) = true := beq_iff_eq.mpr c68
                  have c68b1 : (t541 != 0) = false := bne_eq_false_iff_eq.mpr c68
                  clear c68
                  (first | rw [c68b0] | (simp only [i64_w, i32_w]; rw [c68b0]) | skip)
                  have H' := Aside0.mk H
                  clear H
                  have hnb69 := NB542_463.out
                  have hnc69 := NB463_542.out
                  have hnb70 := NB542_512.out
                  have hnc70 := NB512_542.out
                  have hcz71_0 : w67.cell? ⟨gb542, 0, none⟩ = some (.int .i64 t522) := (blk_cell BK542.out 0).trans rfl
                  have hcz71_1 : w67.cell? ⟨gb542, 1, none⟩ = some (.int .i64 t523) := (blk_cell BK542.out 1).trans rfl
                  have hcz71_2 : w67.cell? ⟨gb542, 2, none⟩ = some (.int .i64 t524) := (blk_cell BK542.out 2).trans rfl
                  have hcz71_3 : w67.cell? ⟨gb542, 3, none⟩ = some (.int .i64 t525) := (blk_cell BK542.out 3).trans rfl
                  have hcz71_4 : w67.cell? ⟨gb542, 4, none⟩ = some (.int .i64 t526) := (blk_cell BK542.out 4).trans rfl
                  have hcz71_5 : w67.cell? ⟨gb542, 5, none⟩ = some (.int .i64 t527) := (blk_cell BK542.out 5).trans rfl
                  have hcz71_6 : w67.cell? ⟨gb542, 6, none⟩ = some (.slice Ao63 t528.length co63) := (blk_cell BK542.out 6).trans rfl
                  have hcz71_7 : w67.cell? ⟨gb542, 7, none⟩ = some (.slice Ao64 t531.length co64) := (blk_cell BK542.out 7).trans rfl
                  have hcz71_8 : w67.cell? ⟨gb542, 8, none⟩ = some (.slice Ao65 t534.length co65) := (blk_cell BK542.out 8).trans rfl
                  have hcz71_9 : w67.cell? ⟨gb542, 9, none⟩ = some (.slice Ao66 t537.length co66) := (blk_cell BK542.out 9).trans rfl
                  have hfz71_0 := blk_frozen BK542.out 0
                  have hfz71_1 := blk_frozen BK542.out 1
                  have hfz71_2 := blk_frozen BK542.out 2
                  have hfz71_3 := blk_frozen BK542.out 3
                  have hfz71_4 := blk_frozen BK542.out 4
                  have hfz71_5 := blk_frozen BK542.out 5
                  have hfz71_6 := blk_frozen BK542.out 6
                  have hfz71_7 := blk_frozen BK542.out 7
                  have hfz71_8 := blk_frozen BK542.out 8
                  have hfz71_9 := blk_frozen BK542.out 9
                  go_wp2
                  repeat (go_quiet (fail); try go_wp2)
                  go_meet
                  case rel => exact ⟨_, (((t537.length : Int) != (l2.length : Int))), (by first | rfl | (simp; done) | (simp [*]; done)), H', ⟨by have := HJ5.out; have := HJ17.out; have := HJ35.out; first | omega | exact Nat.le_refl _⟩, ⟨by (with_reducible repeat (first | apply Kd.R_alloc | apply Kd.R_drewN | apply Kd.R_drew)); exact HO_513006.out⟩, ⟨by (with_reducible repeat (first | apply Kd.R_alloc | apply Kd.R_drewN | apply Kd.R_drew)); exact Kd.R_mono HO_513007.out (fun _ hk => hk.2.2)⟩, ⟨by (with_reducible repeat (first | apply Kd.R_alloc | apply Kd.R_drewN | apply Kd.R_drew)); exact HO_513008.out⟩, ⟨by (with_reducible repeat (first | apply Kd.R_alloc | apply Kd.R_drewN | apply Kd.R_drew)); exact HO_513009.out⟩, ⟨by (with_reducible repeat (first | apply Kd.R_alloc | apply Kd.R_drewN | apply Kd.R_drew)); exact HO530.out⟩, ⟨by (with_reducible repeat (first | apply Kd.R_alloc | apply Kd.R_drewN | apply Kd.R_drew)); exact Kd.R_mono HO533.out (fun _ hk => hk.2.1)⟩, ⟨by (with_reducible repeat (first | apply Kd.R_alloc | apply Kd.R_drewN | apply Kd.R_drew)); exact HO536.out⟩, ⟨by (with_reducible repeat (first | apply Kd.R_alloc | apply Kd.R_drewN | apply Kd.R_drew)); exact HO539.out⟩, ⟨by (with_reducible repeat (first | refine blk_drewN ?_ _ | refine blk_drew ?_ | refine blk_alloc ?_ _)); exact BK463.out⟩, ⟨by (with_reducible repeat (first | refine blk_drewN ?_ _ | refine blk_drew ?_ | refine blk_alloc ?_ _)); exact BK512.out⟩, ⟨by (with_reducible repeat (first | refine blk_drewN ?_ _ | refine blk_drew ?_ | refine blk_alloc ?_ _)); exact BK542.out⟩, ⟨by repeat (first | (with_reducible first | exact HB.out | apply below_alloc | apply pw_below_drewN | apply below_drew1 | refine below_set ?_ GE463.out | refine below_set ?_ GE512.out | refine below_set ?_ GE542.out) | exact HB.out)⟩⟩
                 ·rw [if_neg c68] at H
                  have c68b0 : (t541 == 0) = false := beq_eq_false_iff_ne.mpr c68
                  have c68b1 : (t541 != 0) = true := bne_iff_ne.mpr c68
                  (first | rw [c68b0] | (simp only [i64_w, i32_w]; rw [c68b0]) | skip)
                  have H' := Aside0.mk H
                  clear H
                  go_wp2
                  repeat (go_quiet (fail); try go_wp2)
                  go_meet
                  case rel => exact ⟨_, (true), (by first | rfl | (simp; done) | (simp [*]; done)), H', ⟨by have := HJ5.out; have := HJ17.out; have := HJ35.out; first | omega | exact Nat.le_refl _⟩, ⟨by (with_reducible repeat (first | apply Kd.R_alloc | apply Kd.R_drewN | apply Kd.R_drew)); exact HO_513006.out⟩, ⟨by (with_reducible repeat (first | apply Kd.R_alloc | apply Kd.R_drewN | apply Kd.R_drew)); exact Kd.R_mono HO_513007.out (fun _ hk => hk.2.2)⟩, ⟨by (with_reducible repeat (first | apply Kd.R_alloc | apply Kd.R_drewN | apply Kd.R_drew)); exact HO_513008.out⟩, ⟨by (with_reducible repeat (first | apply Kd.R_alloc | apply Kd.R_drewN | apply Kd.R_drew)); exact HO_513009.out⟩, ⟨by (with_reducible repeat (first | apply Kd.R_alloc | apply Kd.R_drewN | apply Kd.R_drew)); exact HO530.out⟩, ⟨by (with_reducible repeat (first | apply Kd.R_alloc | apply Kd.R_drewN | apply Kd.R_drew)); exact Kd.R_mono HO533.out (fun _ hk => hk.2.1)⟩, ⟨by (with_reducible repeat (first | apply Kd.R_alloc | apply Kd.R_drewN | apply Kd.R_drew)); exact HO536.out⟩, ⟨by (with_reducible repeat (first | apply Kd.R_alloc | apply Kd.R_drewN | apply Kd.R_drew)); exact HO539.out⟩, ⟨by (with_reducible repeat (first | refine blk_drewN ?_ _ | refine blk_drew ?_ | refine blk_alloc ?_ _)); exact BK463.out⟩, ⟨by (with_reducible repeat (first | refine blk_drewN ?_ _ | refine blk_drew ?_ | refine blk_alloc ?_ _)); exact BK512.out⟩, ⟨by (with_reducible repeat (first | refine blk_drewN ?_ _ | refine blk_drew ?_ | refine blk_alloc ?_ _)); exact BK542.out⟩, ⟨by repeat (first | (with_reducible first | exact HB.out | apply below_alloc | apply pw_below_drewN | apply below_drew1 | refine below_set ?_ GE463.out | refine below_set ?_ GE512.out | refine below_set ?_ GE542.out) | exact HB.out)⟩⟩
                case rest =>
                 clear HC52
                 try clear c1
                 try clear c2
                 try clear p2
                 try clear c3
                 try clear q3
                 try clear c4
                 try clear c5
                 try clear c6
                 try clear p6
                 try clear c7
                 try clear c10
                 try clear c15
                 try clear c28
                 try clear c28b0
                 try clear c28b1
                 try clear c30
                 try clear c31
                 try clear c31b0
                 try clear c31b1
                 try clear c31b2
                 try clear c33
                 try clear c33b0
                 try clear c33b1
                 try clear c34
                 try clear c34b0
                 try clear c34b1
                 try clear q38
                 try clear c41
                 try clear c47
                 try clear c47b0
                 try clear c47b1
                 try clear c48
                 try clear c49
                 try clear c50
                 try clear c60
                 try clear c61
                 try clear p64
                 try clear c68
                 try clear c68b0
                 try clear c68b1
                 try clear c69
                 try clear c70
                 try clear hcz11_0
                 try clear hcz11_1
                 try clear hcz11_2
                 try clear hcz11_3
                 try clear hcz11_4
                 try clear hcz11_5
                 try clear hcz11_6
                 try clear hcz11_7
                 try clear hcz11_8
                 try clear hcz11_9
                 try clear hcz13_0
                 try clear hcz13_1
                 try clear hcz13_2
                 try clear hcz13_3
                 try clear hcz13_4
                 try clear hcz13_5
                 try clear hcz13_6
                 try clear hcz13_7
                 try clear hcz13_8
                 try clear hcz13_9
                 try clear hcz19_0
                 try clear hcz19_1
                 try clear hcz19_2
                 try clear hcz19_3
                 try clear hcz19_4
                 try clear hcz19_5
                 try clear hcz19_6
                 try clear hcz19_7
                 try clear hcz19_8
                 try clear hcz19_9
                 try clear hcz21_0
                 try clear hcz21_1
                 try clear hcz21_2
                 try clear hcz21_3
                 try clear hcz21_4
                 try clear hcz21_5
                 try clear hcz21_6
                 try clear hcz21_7
                 try clear hcz21_8
                 try clear hcz21_9
                 try clear hcz42_0
                 try clear hcz42_1
                 try clear hcz42_2
                 try clear hcz42_3
                 try clear hcz42_4
                 try clear hcz42_5
                 try clear hcz42_6
                 try clear hcz42_7
                 try clear hcz42_8
                 try clear hcz42_9
                 try clear hcz62_0
                 try clear hcz62_1
                 try clear hcz62_2
                 try clear hcz62_3
                 try clear hcz62_4
                 try clear hcz62_5
                 try clear hcz62_6
                 try clear hcz62_7
                 try clear hcz62_8
                 try clear hcz62_9
                 try clear hcz71_0
                 try clear hcz71_1
                 try clear hcz71_2
                 try clear hcz71_3
                 try clear hcz71_4
                 try clear hcz71_5
                 try clear hcz71_6
                 try clear hcz71_7
                 try clear hcz71_8
                 try clear hcz71_9
                 try clear hfz11_0
                 try clear hfz11_1
                 try clear hfz11_2
                 try clear hfz11_3
                 try clear hfz11_4
                 try clear hfz11_5
                 try clear hfz11_6
                 try clear hfz11_7
                 try clear hfz11_8
                 try clear hfz11_9
                 try clear hfz13_0
                 try clear hfz13_1
                 try clear hfz13_2
                 try clear hfz13_3
                 try clear hfz13_4
                 try clear hfz13_5
                 try clear hfz13_6
                 try clear hfz13_7
                 try clear hfz13_8
                 try clear hfz13_9
                 try clear hfz19_0
                 try clear hfz19_1
                 try clear hfz19_2
                 try clear hfz19_3
                 try clear hfz19_4
                 try clear hfz19_5
                 try clear hfz19_6
                 try clear hfz19_7
                 try clear hfz19_8
                 try clear hfz19_9
                 try clear hfz21_0
                 try clear hfz21_1
                 try clear hfz21_2
                 try clear hfz21_3
                 try clear hfz21_4
                 try clear hfz21_5
                 try clear hfz21_6
                 try clear hfz21_7
                 try clear hfz21_8
                 try clear hfz21_9
                 try clear hfz42_0
                 try clear hfz42_1
                 try clear hfz42_2
                 try clear hfz42_3
                 try clear hfz42_4
                 try clear hfz42_5
                 try clear hfz42_6
                 try clear hfz42_7
                 try clear hfz42_8
                 try clear hfz42_9
                 try clear hfz62_0
                 try clear hfz62_1
                 try clear hfz62_2
                 try clear hfz62_3
                 try clear hfz62_4
                 try clear hfz62_5
                 try clear hfz62_6
                 try clear hfz62_7
                 try clear hfz62_8
                 try clear hfz62_9
                 try clear hfz71_0
                 try clear hfz71_1
                 try clear hfz71_2
                 try clear hfz71_3
                 try clear hfz71_4
                 try clear hfz71_5
                 try clear hfz71_6
                 try clear hfz71_7
                 try clear hfz71_8
                 try clear hfz71_9
                 try clear p2
                 try clear p6
                 try clear q3
                 try clear q38
                 obtain ⟨kq, x81_51, rfl, HA, HJ51, HO_513006, HO_513007, HO_513008, HO_513009, HO_543006, HO_543007, HO_543008, HO_543009, BK463, BK512, BK542, HB⟩ := hcut
                 cases kq with
                 | zero => exact absurd HA.out (by simp [quarrellaw20_ScriptCut.j3])
                 | succ kj51 =>
                  have H := HA.out
                  clear HA
                  simp only [quarrellaw20_ScriptCut.j3] at H
                  by_cases c72 : x81_51 = true
                  ·subst c72
                   have H1 : (some false) = some r := by rw [if_pos rfl] at H; exact H
                   clear H
                   have H := H1
                   clear H1
                   obtain rfl := Option.some.inj H
                   go_wp2
                   repeat (go_quiet (fail); try go_wp2)
                   go_ret
                   exact ⟨by first | rfl | (simp [errW_none, errW_some] <;> rfl) | (simp only [← hji32]; first | rfl | (simp [errW_none, errW_some] <;> rfl)) | (simp [*, errW_none, errW_some] <;> rfl), by repeat (first | (with_reducible first | exact HB.out | apply below_alloc | apply pw_below_drewN | apply below_drew1 | refine below_set ?_ GE463.out | refine below_set ?_ GE512.out | refine below_set ?_ GE542.out) | exact HB.out)⟩
                  ·replace c72 := Bool.eq_false_iff.mpr c72
                   subst c72
                   have H1 : (quarrellaw20_ScriptCut.l0 kj51 l2 0 t522 t523 t524 t525 t526 t527 t528 t531 t534 t537) = some r := by rw [if_neg (show ¬ (false = true) by decide)] at H; exact H
                   clear H
                   have H := H1
                   clear H1
                   have H' := Aside0.mk H
                   clear H
                   go_wp2
                   repeat (go_quiet (fail); try go_wp2)
                   go_loopg [16] kj51 (fun kq v16 w' => ∃ (x16_5 : Int), v16 = .int .i64 x16_5 ∧ Aside0 (quarrellaw20_ScriptCut.l0 kq l2 x16_5 t522 t523 t524 t525 t526 t527 t528 t531 t534 t537 = some r) ∧ Aside0 (kq ≤ kj51) ∧ Aside0 (Kd.R (Kd.int .i64) 2 w' w.heap.size (fun k_ => some k_ ≠ ((.slice Ao63 t528.length co63) : Value).ownBlock) (.slice Ao43 t498.length co43) t498) ∧ Aside0 (Kd.R (Kd.int .u8) 5 w' w.heap.size (fun k_ => some k_ ≠ ((.slice Ao64 t531.length co64) : Value).ownBlock) (.slice Ao44 t501.length co44) t501) ∧ Aside0 (Kd.R (Kd.slice 61 (Kd.slice 80 k80)) 60 w' w.heap.size (fun k_ => some k_ ≠ ((.slice Ao65 t534.length co65) : Value).ownBlock) (.slice Ao45 t504.length co45) t504) ∧ Aside0 (Kd.R (Kd.int .i64) 3 w' w.heap.size (fun k_ => some k_ ≠ ((.slice Ao66 t537.length co66) : Value).ownBlock) (.slice Ao46 t507.length co46) t507) ∧ Aside0 (Kd.R (Kd.int .i64) 2 w' w.heap.size (fun k_ => some k_ ≠ ((.slice Ao43 t498.length co43) : Value).ownBlock) (.slice Ao63 t528.length co63) t528) ∧ Aside0 (Kd.R (Kd.int .u8) 5 w' w.heap.size (fun k_ => some k_ ≠ ((.slice Ao44 t501.length co44) : Value).ownBlock) (.slice Ao64 t531.length co64) t531) ∧ Aside0 (Kd.R (Kd.slice 61 (Kd.slice 80 k80)) 60 w' w.heap.size (fun k_ => some k_ ≠ ((.slice Ao45 t504.length co45) : Value).ownBlock) (.slice Ao65 t534.length co65) t534) ∧ Aside0 (Kd.R (Kd.int .i64) 3 w' w.heap.size (fun k_ => some k_ ≠ ((.slice Ao46 t507.length co46) : Value).ownBlock) (.slice Ao66 t537.length co66) t537) ∧ Aside0 (w'.heap[gb463]? = some (.cells #[.int .i64 a0_0, .int .i64 a0_1, .int .i64 a0_2, .int .i64 a0_3, .int .i64 a0_4, .int .i64 a0_5, (.slice A0_6 l0_6.length c0_6), (.slice A0_7 l0_7.length c0_7), (.slice A0_8 l0_8.length c0_8), (.slice none 0 0)] 34 (0, 0))) ∧ Aside0 (w'.heap[gb512]? = some (.cells #[.int .i64 t492, .int .i64 t493, .int .i64 t494, .int .i64 t495, .int .i64 t496, .int .i64 t497, (.slice Ao43 t498.length co43), (.slice Ao44 t501.length co44), (.slice Ao45 t504.length co45), (.slice Ao46 t507.length co46)] 30 (0, 0))) ∧ Aside0 (w'.heap[gb542]? = some (.cells #[.int .i64 t522, .int .i64 t523, .int .i64 t524, .int .i64 t525, .int .i64 t526, .int .i64 t527, (.slice Ao63 t528.length co63), (.slice Ao64 t531.length co64), (.slice Ao65 t534.length co65), (.slice Ao66 t537.length co66)] 30 (0, 0))) ∧ Aside0 (Below w.heap.size w w'))
                   case atStart => exact ⟨(0), (by first | rfl | (simp; done) | (simp [*]; done)), H', ⟨Nat.le_refl _⟩, ⟨by (with_reducible repeat (first | apply Kd.R_alloc | apply Kd.R_drewN | apply Kd.R_drew)); exact HO_513006.out⟩, ⟨by (with_reducible repeat (first | apply Kd.R_alloc | apply Kd.R_drewN | apply Kd.R_drew)); exact HO_513007.out⟩, ⟨by (with_reducible repeat (first | apply Kd.R_alloc | apply Kd.R_drewN | apply Kd.R_drew)); exact HO_513008.out⟩, ⟨by (with_reducible repeat (first | apply Kd.R_alloc | apply Kd.R_drewN | apply Kd.R_drew)); exact HO_513009.out⟩, ⟨by (with_reducible repeat (first | apply Kd.R_alloc | apply Kd.R_drewN | apply Kd.R_drew)); exact HO_543006.out⟩, ⟨by (with_reducible repeat (first | apply Kd.R_alloc | apply Kd.R_drewN | apply Kd.R_drew)); exact HO_543007.out⟩, ⟨by (with_reducible repeat (first | apply Kd.R_alloc | apply Kd.R_drewN | apply Kd.R_drew)); exact HO_543008.out⟩, ⟨by (with_reducible repeat (first | apply Kd.R_alloc | apply Kd.R_drewN | apply Kd.R_drew)); exact HO_543009.out⟩, ⟨by (with_reducible repeat (first | refine blk_drewN ?_ _ | refine blk_drew ?_ | refine blk_alloc ?_ _)); exact BK463.out⟩, ⟨by (with_reducible repeat (first | refine blk_drewN ?_ _ | refine blk_drew ?_ | refine blk_alloc ?_ _)); exact BK512.out⟩, ⟨by (with_reducible repeat (first | refine blk_drewN ?_ _ | refine blk_drew ?_ | refine blk_alloc ?_ _)); exact BK542.out⟩, ⟨by repeat (first | (with_reducible first | exact HB.out | apply below_alloc | apply pw_below_drewN | apply below_drew1 | refine below_set ?_ GE463.out | refine below_set ?_ GE512.out | refine below_set ?_ GE542.out) | exact HB.out)⟩⟩
                   case round =>
                    clear H'
                    try clear c1
                    try clear c2
                    try clear p2
                    try clear c3
                    try clear q3
                    try clear c4
                    try clear c5
                    try clear c6
                    try clear p6
                    try clear c7
                    try clear c10
                    try clear c15
                    try clear c28
                    try clear c28b0
                    try clear c28b1
                    try clear c30
                    try clear c31
                    try clear c31b0
                    try clear c31b1
                    try clear c31b2
                    try clear c33
                    try clear c33b0
                    try clear c33b1
                    try clear c34
                    try clear c34b0
                    try clear c34b1
                    try clear q38
                    try clear c41
                    try clear c47
                    try clear c47b0
                    try clear c47b1
                    try clear c48
                    try clear c49
                    try clear c50
                    try clear c60
                    try clear c61
                    try clear p64
                    try clear c68
                    try clear c68b0
                    try clear c68b1
                    try clear c69
                    try clear c70
                    try clear c72
                    try clear hcz11_0
                    try clear hcz11_1
                    try clear hcz11_2
                    try clear hcz11_3
                    try clear hcz11_4
                    try clear hcz11_5
                    try clear hcz11_6
                    try clear hcz11_7
                    try clear hcz11_8
                    try clear hcz11_9
                    try clear hcz13_0
                    try clear hcz13_1
                    try clear hcz13_2
                    try clear hcz13_3
                    try clear hcz13_4
                    try clear hcz13_5
                    try clear hcz13_6
                    try clear hcz13_7
                    try clear hcz13_8
                    try clear hcz13_9
                    try clear hcz19_0
                    try clear hcz19_1
                    try clear hcz19_2
                    try clear hcz19_3
                    try clear hcz19_4
                    try clear hcz19_5
                    try clear hcz19_6
                    try clear hcz19_7
                    try clear hcz19_8
                    try clear hcz19_9
                    try clear hcz21_0
                    try clear hcz21_1
                    try clear hcz21_2
                    try clear hcz21_3
                    try clear hcz21_4
                    try clear hcz21_5
                    try clear hcz21_6
                    try clear hcz21_7
                    try clear hcz21_8
                    try clear hcz21_9
                    try clear hcz42_0
                    try clear hcz42_1
                    try clear hcz42_2
                    try clear hcz42_3
                    try clear hcz42_4
                    try clear hcz42_5
                    try clear hcz42_6
                    try clear hcz42_7
                    try clear hcz42_8
                    try clear hcz42_9
                    try clear hcz62_0
                    try clear hcz62_1
                    try clear hcz62_2
                    try clear hcz62_3
                    try clear hcz62_4
                    try clear hcz62_5
                    try clear hcz62_6
                    try clear hcz62_7
                    try clear hcz62_8
                    try clear hcz62_9
                    try clear hcz71_0
                    try clear hcz71_1
                    try clear hcz71_2
                    try clear hcz71_3
                    try clear hcz71_4
                    try clear hcz71_5
                    try clear hcz71_6
                    try clear hcz71_7
                    try clear hcz71_8
                    try clear hcz71_9
                    try clear hfz11_0
                    try clear hfz11_1
                    try clear hfz11_2
                    try clear hfz11_3
                    try clear hfz11_4
                    try clear hfz11_5
                    try clear hfz11_6
                    try clear hfz11_7
                    try clear hfz11_8
                    try clear hfz11_9
                    try clear hfz13_0
                    try clear hfz13_1
                    try clear hfz13_2
                    try clear hfz13_3
                    try clear hfz13_4
                    try clear hfz13_5
                    try clear hfz13_6
                    try clear hfz13_7
                    try clear hfz13_8
                    try clear hfz13_9
                    try clear hfz19_0
                    try clear hfz19_1
                    try clear hfz19_2
                    try clear hfz19_3
                    try clear hfz19_4
                    try clear hfz19_5
                    try clear hfz19_6
                    try clear hfz19_7
                    try clear hfz19_8
                    try clear hfz19_9
                    try clear hfz21_0
                    try clear hfz21_1
                    try clear hfz21_2
                    try clear hfz21_3
                    try clear hfz21_4
                    try clear hfz21_5
                    try clear hfz21_6
                    try clear hfz21_7
                    try clear hfz21_8
                    try clear hfz21_9
                    try clear hfz42_0
                    try clear hfz42_1
                    try clear hfz42_2
                    try clear hfz42_3
                    try clear hfz42_4
                    try clear hfz42_5
                    try clear hfz42_6
                    try clear hfz42_7
                    try clear hfz42_8
                    try clear hfz42_9
                    try clear hfz62_0
                    try clear hfz62_1
                    try clear hfz62_2
                    try clear hfz62_3
                    try clear hfz62_4
                    try clear hfz62_5
                    try clear hfz62_6
                    try clear hfz62_7
                    try clear hfz62_8
                    try clear hfz62_9
                    try clear hfz71_0
                    try clear hfz71_1
                    try clear hfz71_2
                    try clear hfz71_3
                    try clear hfz71_4
                    try clear hfz71_5
                    try clear hfz71_6
                    try clear hfz71_7
                    try clear hfz71_8
                    try clear hfz71_9
                    try clear p2
                    try clear p6
                    try clear p64
                    try clear q3
                    try clear q38
                    obtain ⟨x16_5, rfl, HA, HK5, HO_513006, HO_513007, HO_513008, HO_513009, HO_543006, HO_543007, HO_543008, HO_543009, BK463, BK512, BK542, HB⟩ := hrel
                    cases gk with
                    | zero => exact absurd HA.out (by simp [quarrellaw20_ScriptCut.l0])
                    | succ k5 =>
                     have H := HA.out
                     clear HA
                     simp only [quarrellaw20_ScriptCut.l0] at H
                     by_cases c73 : x16_5 < (l2.length : Int)
                     ·rw [if_pos c73] at H
                      have c73b0 : decide (x16_5 < (l2.length : Int)) = true := decide_eq_true c73
                      clear c73
                      by_cases c74 : 0 ≤ x16_5
                      ·rw [if_pos c74] at H
                       have c74b0 : decide (0 ≤ x16_5) = true := decide_eq_true c74
                       clear c74
                       by_cases c75 : x16_5 < (t537.length : Int)
                       ·rw [if_pos c75] at H
                        have c75b0 : decide (x16_5 < (t537.length : Int)) = true := decide_eq_true c75
                        clear c75
                        by_cases c76 : (rd t537 x16_5) = (wrap64 (rd l2 x16_5))
                        ·rw [if_pos c76] at H
                         have c76b0 : ((rd t537 x16_5) == (wrap64 (rd l2 x16_5))) = true := beq_iff_eq.mpr c76
                         have c76b1 : ((rd t537 x16_5) != (wrap64 (rd l2 x16_5))) = false := bne_eq_false_iff_eq.mpr c76
                         clear c76
                         have H' := Aside0.mk H
                         clear H
                         have hnb77 := NB542_463.out
                         have hnc77 := NB463_542.out
                         have hnb78 := NB542_512.out
                         have hnc78 := NB512_542.out
                         have hcz79_0 : wr.cell? ⟨gb542, 0, none⟩ = some (.int .i64 t522) := (blk_cell BK542.out 0).trans rfl
                         have hcz79_1 : wr.cell? ⟨gb542, 1, none⟩ = some (.int .i64 t523) := (blk_cell BK542.out 1).trans rfl
                         have hcz79_2 : wr.cell? ⟨gb542, 2, none⟩ = some (.int .i64 t524) := (blk_cell BK542.out 2).trans rfl
                         have hcz79_3 : wr.cell? ⟨gb542, 3, none⟩ = some (.int .i64 t525) := (blk_cell BK542.out 3).trans rfl
                         have hcz79_4 : wr.cell? ⟨gb542, 4, none⟩ = some (.int .i64 t526) := (blk_cell BK542.out 4).trans rfl
                         have hcz79_5 : wr.cell? ⟨gb542, 5, none⟩ = some (.int .i64 t527) := (blk_cell BK542.out 5).trans rfl
                         have hcz79_6 : wr.cell? ⟨gb542, 6, none⟩ = some (.slice Ao63 t528.length co63) := (blk_cell BK542.out 6).trans rfl
                         have hcz79_7 : wr.cell? ⟨gb542, 7, none⟩ = some (.slice Ao64 t531.length co64) := (blk_cell BK542.out 7).trans rfl
                         have hcz79_8 : wr.cell? ⟨gb542, 8, none⟩ = some (.slice Ao65 t534.length co65) := (blk_cell BK542.out 8).trans rfl
                         have hcz79_9 : wr.cell? ⟨gb542, 9, none⟩ = some (.slice Ao66 t537.length co66) := (blk_cell BK542.out 9).trans rfl
                         have hfz79_0 := blk_frozen BK542.out 0
                         have hfz79_1 := blk_frozen BK542.out 1
                         have hfz79_2 := blk_frozen BK542.out 2
                         have hfz79_3 := blk_frozen BK542.out 3
                         have hfz79_4 := blk_frozen BK542.out 4
                         have hfz79_5 := blk_frozen BK542.out 5
                         have hfz79_6 := blk_frozen BK542.out 6
                         have hfz79_7 := blk_frozen BK542.out 7
                         have hfz79_8 := blk_frozen BK542.out 8
                         have hfz79_9 := blk_frozen BK542.out 9
                         have p543 : 0 ≤ (x16_5 : Int) := of_decide_eq_true (by first | (with_reducible assumption) | assumption)
                         have q543 : x16_5 < (t537.length : Int) := of_decide_eq_true (by first | (with_reducible assumption) | assumption)
                         obtain ⟨ad543, e543, hx543_0⟩ := Kd.at_int (Kd.R_reads' HO_543009.out).2.2 x16_5 p543 q543
                         cases e543
                         replace p543 := eq_true p543
                         replace q543 := eq_true q543
                         have p544 : 0 ≤ (x16_5 : Int) := of_decide_eq_true (by first | (with_reducible assumption) | assumption)
                         have q544 : x16_5 < (l2.length : Int) := of_decide_eq_true (by first | (with_reducible assumption) | assumption)
                         obtain ⟨ad544, e544, hx544_0⟩ := Kd.at_int HR2.out x16_5 p544 q544
                         cases e544
                         replace hx544_0 := (HB.out.cell (World.block_lt_of_cell? w _ hx544_0)).trans hx544_0
                         replace p544 := eq_true p544
                         replace q544 := eq_true q544
                         go_wp2
                         repeat (go_quiet (fail); try go_wp2)
                         go_roundg k5
                         case measure => have := HJ5.out; have := HJ17.out; have := HJ35.out; have := HJ51.out; have := HK5.out; omega
                         case rel => exact ⟨(wrap64 (x16_5 + 1)), (by first | rfl | (simp; done) | (simp [*]; done)), H', ⟨by have := HJ5.out; have := HJ17.out; have := HJ35.out; have := HJ51.out; have := HK5.out; omega⟩, ⟨by (with_reducible repeat (first | apply Kd.R_alloc | apply Kd.R_drewN | apply Kd.R_drew)); exact HO_513006.out⟩, ⟨by (with_reducible repeat (first | apply Kd.R_alloc | apply Kd.R_drewN | apply Kd.R_drew)); exact HO_513007.out⟩, ⟨by (with_reducible repeat (first | apply Kd.R_alloc | apply Kd.R_drewN | apply Kd.R_drew)); exact HO_513008.out⟩, ⟨by (with_reducible repeat (first | apply Kd.R_alloc | apply Kd.R_drewN | apply Kd.R_drew)); exact HO_513009.out⟩, ⟨by (with_reducible repeat (first | apply Kd.R_alloc | apply Kd.R_drewN | apply Kd.R_drew)); exact HO_543006.out⟩, ⟨by (with_reducible repeat (first | apply Kd.R_alloc | apply Kd.R_drewN | apply Kd.R_drew)); exact HO_543007.out⟩, ⟨by (with_reducible repeat (first | apply Kd.R_alloc | apply Kd.R_drewN | apply Kd.R_drew)); exact HO_543008.out⟩, ⟨by (with_reducible repeat (first | apply Kd.R_alloc | apply Kd.R_drewN | apply Kd.R_drew)); exact HO_543009.out⟩, ⟨by (with_reducible repeat (first | refine blk_drewN ?_ _ | refine blk_drew ?_ | refine blk_alloc ?_ _)); exact BK463.out⟩, ⟨by (with_reducible repeat (first | refine blk_drewN ?_ _ | refine blk_drew ?_ | refine blk_alloc ?_ _)); exact BK512.out⟩, ⟨by (with_reducible repeat (first | refine blk_drewN ?_ _ | refine blk_drew ?_ | refine blk_alloc ?_ _)); exact BK542.out⟩, ⟨by repeat (first | (with_reducible first | exact HB.out | apply below_alloc | apply pw_below_drewN | apply below_drew1 | refine below_set ?_ GE463.out | refine below_set ?_ GE512.out | refine below_set ?_ GE542.out) | exact HB.out)⟩⟩
                        ·rw [if_neg c76] at H
                         have c76b0 : ((rd t537 x16_5) == (wrap64 (rd l2 x16_5))) = false := beq_eq_false_iff_ne.mpr c76
                         have c76b1 : ((rd t537 x16_5) != (wrap64 (rd l2 x16_5))) = true := bne_iff_ne.mpr c76
                         obtain rfl := Option.some.inj H
                         have hnb80 := NB542_463.out
                         have hnc80 := NB463_542.out
                         have hnb81 := NB542_512.out
                         have hnc81 := NB512_542.out
                         have hcz82_0 : wr.cell? ⟨gb542, 0, none⟩ = some (.int .i64 t522) := (blk_cell BK542.out 0).trans rfl
                         have hcz82_1 : wr.cell? ⟨gb542, 1, none⟩ = some (.int .i64 t523) := (blk_cell BK542.out 1).trans rfl
                         have hcz82_2 : wr.cell? ⟨gb542, 2, none⟩ = some (.int .i64 t524) := (blk_cell BK542.out 2).trans rfl
                         have hcz82_3 : wr.cell? ⟨gb542, 3, none⟩ = some (.int .i64 t525) := (blk_cell BK542.out 3).trans rfl
                         have hcz82_4 : wr.cell? ⟨gb542, 4, none⟩ = some (.int .i64 t526) := (blk_cell BK542.out 4).trans rfl
                         have hcz82_5 : wr.cell? ⟨gb542, 5, none⟩ = some (.int .i64 t527) := (blk_cell BK542.out 5).trans rfl
                         have hcz82_6 : wr.cell? ⟨gb542, 6, none⟩ = some (.slice Ao63 t528.length co63) := (blk_cell BK542.out 6).trans rfl
                         have hcz82_7 : wr.cell? ⟨gb542, 7, none⟩ = some (.slice Ao64 t531.length co64) := (blk_cell BK542.out 7).trans rfl
                         have hcz82_8 : wr.cell? ⟨gb542, 8, none⟩ = some (.slice Ao65 t534.length co65) := (blk_cell BK542.out 8).trans rfl
                         have hcz82_9 : wr.cell? ⟨gb542, 9, none⟩ = some (.slice Ao66 t537.length co66) := (blk_cell BK542.out 9).trans rfl
                         have hfz82_0 := blk_frozen BK542.out 0
                         have hfz82_1 := blk_frozen BK542.out 1
                         have hfz82_2 := blk_frozen BK542.out 2
                         have hfz82_3 := blk_frozen BK542.out 3
                         have hfz82_4 := blk_frozen BK542.out 4
                         have hfz82_5 := blk_frozen BK542.out 5
                         have hfz82_6 := blk_frozen BK542.out 6
                         have hfz82_7 := blk_frozen BK542.out 7
                         have hfz82_8 := blk_frozen BK542.out 8
                         have hfz82_9 := blk_frozen BK542.out 9
                         have p543 : 0 ≤ (x16_5 : Int) := of_decide_eq_true (by first | (with_reducible assumption) | assumption)
                         have q543 : x16_5 < (t537.length : Int) := of_decide_eq_true (by first | (with_reducible assumption) | assumption)
                         obtain ⟨ad543, e543, hx543_0⟩ := Kd.at_int (Kd.R_reads' HO_543009.out).2.2 x16_5 p543 q543
                         cases e543
                         replace p543 := eq_true p543
                         replace q543 := eq_true q543
                         have p544 : 0 ≤ (x16_5 : Int) := of_decide_eq_true (by first | (with_reducible assumption) | assumption)
                         have q544 : x16_5 < (l2.length : Int) := of_decide_eq_true (by first | (with_reducible assumption) | assumption)
                         obtain ⟨ad544, e544, hx544_0⟩ := Kd.at_int HR2.out x16_5 p544 q544
                         cases e544
                         replace hx544_0 := (HB.out.cell (World.block_lt_of_cell? w _ hx544_0)).trans hx544_0
                         replace p544 := eq_true p544
                         replace q544 := eq_true q544
                         go_wp2
                         repeat (go_quiet (fail); try go_wp2)
                         go_ret
                         exact ⟨by first | rfl | (simp [errW_none, errW_some] <;> rfl) | (simp only [← hji32]; first | rfl | (simp [errW_none, errW_some] <;> rfl)) | (simp [*, errW_none, errW_some] <;> rfl), by repeat (first | (with_reducible first | exact HB.out | apply below_alloc | apply pw_below_drewN | apply below_drew1 | refine below_set ?_ GE463.out | refine below_set ?_ GE512.out | refine below_set ?_ GE542.out) | exact HB.out)⟩
                       ·rw [if_neg c75] at H
                        exact absurd H (by simp)
                      ·rw [if_neg c74] at H
                       exact absurd H (by simp)
                     ·rw [if_neg c73] at H
                      have c73b0 : decide (x16_5 < (l2.length : Int)) = false := decide_eq_false c73
                      clear c73
                      obtain rfl := Option.some.inj H
                      go_wp2
                      repeat (go_quiet (fail); try go_wp2)
                      go_ret
                      exact ⟨by first | rfl | (simp [errW_none, errW_some] <;> rfl) | (simp only [← hji32]; first | rfl | (simp [errW_none, errW_some] <;> rfl)) | (simp [*, errW_none, errW_some] <;> rfl), by repeat (first | (with_reducible first | exact HB.out | apply below_alloc | apply pw_below_drewN | apply below_drew1 | refine below_set ?_ GE463.out | refine below_set ?_ GE512.out | refine below_set ?_ GE542.out) | exact HB.out)⟩
               ·rw [if_neg c50] at H
                exact absurd H (by simp)
              ·rw [if_neg c49] at H
               exact absurd H (by simp)
          ·rw [if_neg c34] at H
           exact absurd H (by simp)
         ·rw [if_neg c33] at H
          exact absurd H (by simp)
 ·replace c5 := Bool.eq_false_iff.mpr c5
  subst c5
  have H1 : (some false) = some r := by rw [if_neg (show ¬ (false = true) by decide)] at H; exact H
  clear H
  have H := H1
  clear H1
  obtain rfl := Option.some.inj H
  go_enter Try.func6, Try.ntmps6
  go_wp2_with (first | ((with_reducible refine gate_dst (N := 3) rfl ?_); (try (refine gate_guard (by rfl) ?_; dsimp only)); refine box_event ?hg (N := 3) ?hd (cs := #[.int .i64 a0_0, .int .i64 a0_1, .int .i64 a0_2, .int .i64 a0_3, .int .i64 a0_4, .int .i64 a0_5, .slice A0_6 l0_6.length c0_6, .slice A0_7 l0_7.length c0_7, .slice A0_8 l0_8.length c0_8, .slice A0_9 l0_9.length c0_9]) (t := 34) ?hr ?_; (case hd => rfl); (case hg => rfl); (case hr => first | (go_simp; done) | (go_simp; rfl)); intro gb463 hg w83 hbox hb; have n0_ := Aside0.mk (below_step (by repeat (first | (with_reducible first | exact HB.out | apply below_alloc | apply pw_below_drewN | apply below_drew1) | exact HB.out)) hb); have n1_ := Aside0.mk (hbox); have n2_ := Aside0.mk ((by rw [hg]; exact (below_size (by repeat (first | (with_reducible first | exact HB.out | apply below_alloc | apply pw_below_drewN | apply below_drew1) | exact HB.out))) : w.heap.size ≤ gb463)); have n3_ := Aside0.mk ((by rw [hg]; exact (below_size (by repeat (first | (with_reducible first | exact HB.out | apply below_alloc | apply pw_below_drewN | apply below_drew1) | exact HB.out))) : w.heap.size ≤ gb463)); clear HB; have HB := n0_; have BK463 := n1_; have GW463 := n2_; have GE463 := n3_; clear n0_ n1_ n2_ n3_; clear hb hbox hg) | (go_at_call 9; (with_reducible refine (quarrellaw20_alive.calls k  false _ A4.out).mono ?_); rintro e w84 ⟨rfl, hb⟩; have n0_ := Aside0.mk (blk_below (g := gb463) (o := .cells #[.int .i64 a0_0, .int .i64 a0_1, .int .i64 a0_2, .int .i64 a0_3, .int .i64 a0_4, .int .i64 a0_5, .slice A0_6 l0_6.length c0_6, .slice A0_7 l0_7.length c0_7, .slice A0_8 l0_8.length c0_8, .slice A0_9 l0_9.length c0_9] 34 (0, 0)) (by (with_reducible repeat (first | refine blk_drewN ?_ _ | refine blk_drew ?_ | refine blk_alloc ?_ _)); exact BK463.out) hb); have n1_ := Aside0.mk (below_step (by repeat (first | (with_reducible first | exact HB.out | apply below_alloc | apply pw_below_drewN | apply below_drew1 | refine below_set ?_ GE463.out) | exact HB.out)) hb); clear BK463; clear HB; have BK463 := n0_; have HB := n1_; clear n0_ n1_; (try clear hb); (try clear hb2); (try clear hk); (try clear hi)))
  go_ret
  exact ⟨by first | rfl | (simp [errW_none, errW_some] <;> rfl) | (simp [*, errW_none, errW_some] <;> rfl), by repeat (first | (with_reducible first | exact HB.out | apply below_alloc | apply pw_below_drewN | apply below_drew1 | refine below_set ?_ GE463.out) | exact HB.out)⟩
end Go.Proofs.Ythfkgnkojhocbaa.S
end
section
namespace Go.Proofs.Ythfkgnkojhocbaa.S
open Go Go.RowKit Go.Proofs.YthfkgnkojhocbaaW.PrintWords
set_option linter.unusedVariables false
set_option linter.unusedSimpArgs false
def opB (o : S80) : List Int := [o.f0 % 256, o.f1 % 256, o.f2 % 256]
def encT (l : List S80) : List Int := (l.length : Int) % 256 :: l.flatMap opB
def encA (l : List (List S80)) : List Int := (l.length : Int) % 256 :: l.flatMap encT
def head7 (c : S25) : List Int := [c.f0 % 256, c.f1 % 256, (c.f2 / 256) % 256, c.f2 % 256, c.f3 % 256, c.f4 % 256, c.f5 % 256]
/-- A script's bytes. -/
def putF (c : S25) (f d : List Int) (a : List (List (List S80))) (p : List Int) : List Int :=
  head7 c ++ (f.map (· % 256) ++ (a.flatMap encA ++ ((d.length : Int) % 256 :: (d ++ p.map (· % 256)))))
theorem at_cons {l : List Int} {a : Nat} {x : Int} {r : List Int} (h : l.drop a = x :: r) : a < l.length ∧ l.getD a 0 = x ∧ l.drop (a + 1) = r := by
  have hl : a < l.length := by
    rcases Nat.lt_or_ge a l.length with h1 | h1
    · exact h1
    · rw [List.drop_eq_nil_of_le h1] at h; cases h
  have e := List.drop_eq_getElem_cons hl
  rw [h] at e
  injection e with e1 e2
  exact ⟨hl, by simp [hl, e1], e2.symm⟩
theorem count_put {l r : List Int} {a : Nat} {n lo hi : Int} (h : l.drop a = n :: r) (h1 : lo ≤ n) (h2 : n ≤ hi) : countF l a lo hi = (n, 0, a + 1) := by
  obtain ⟨hl, hg, _⟩ := at_cons h
  unfold countF
  rw [if_neg (by omega), hg, if_neg (by omega)]
theorem okB_rng {o : S80} {n : Int} (h : okB o n = true) (hn : n ≤ 256) : (0 ≤ o.f0 ∧ o.f0 ≤ 255) ∧ (0 ≤ o.f1 ∧ o.f1 ≤ 255) ∧ (-128 ≤ o.f2 ∧ o.f2 ≤ 127) := by
  unfold okB at h
  split at h
  · simp at h; omega
  · split at h
    · simp at h; omega
    · cases h
theorem op_put {l r : List Int} {a : Nat} {o : S80} {n : Int} (h : l.drop a = opB o ++ r) (ho : okB o n = true) (hn : n ≤ 256) : a + 3 ≤ l.length ∧ opOf l a = o ∧ l.drop (a + 3) = r := by
  obtain ⟨h0, h1, h2⟩ := okB_rng ho hn
  obtain ⟨l0, g0, d0⟩ := at_cons (show l.drop a = o.f0 % 256 :: ((o.f1 % 256) :: (o.f2 % 256) :: r) from h)
  obtain ⟨l1, g1, d1⟩ := at_cons d0
  obtain ⟨l2, g2, d2⟩ := at_cons d1
  refine ⟨by omega, ?_, d2⟩
  unfold opOf
  obtain ⟨x, y, z⟩ := o
  simp only at *
  rw [g0, g1, show a + 2 = a + 1 + 1 from rfl, g2]
  have e0 : x % 256 = x := by omega
  have e1 : y % 256 = y := by omega
  have e2 : sgn (z % 256) = z := by unfold sgn; split <;> omega
  rw [e0, e1, e2]
theorem ops_put {l : List Int} {n : Int} (hn : n ≤ 256) : ∀ (os acc : List S80) (a : Nat) (r : List Int), l.drop a = os.flatMap opB ++ r → (∀ o ∈ os, okB o n = true) →
    opsF l n os.length a acc = (acc ++ os, 0, a + 3 * os.length) ∧ l.drop (a + 3 * os.length) = r
  | [], acc, a, r, h, _ => by simpa [opsF] using h
  | o :: os, acc, a, r, h, ho => by
    rw [List.flatMap_cons, List.append_assoc] at h
    obtain ⟨h3, e, d⟩ := op_put h (ho o (by simp)) hn
    obtain ⟨q1, q2⟩ := ops_put hn os (acc ++ [o]) (a + 3) r d (fun x hx => ho x (by simp [hx]))
    simp only [List.length_cons, opsF]
    rw [if_neg (by omega), e, if_neg (by simp [ho o (by simp)]), q1]
    refine ⟨?_, ?_⟩
    · simp only [List.append_assoc, List.singleton_append, Prod.mk.injEq, true_and]
      omega
    · rw [← q2]; congr 1; omega
theorem opsB_len : ∀ os : List S80, (os.flatMap opB).length = 3 * os.length
  | [] => rfl
  | o :: os => by rw [List.flatMap_cons, List.length_append, opsB_len os]; simp [opB]; omega
theorem rightB_iff {n : Int} {os : List S80} (h : rightB n os = true) : 1 ≤ os.length ∧ os.length ≤ 8 ∧ ∀ o ∈ os, okB o n = true := by
  unfold rightB at h
  simp only [Bool.and_eq_true, decide_eq_true_eq, List.all_eq_true] at h
  exact ⟨h.1.1, h.1.2, h.2⟩
theorem txn_put {l : List Int} {n : Int} (hn : n ≤ 256) (os : List S80) (a : Nat) (r : List Int) (h : l.drop a = encT os ++ r) (hr : rightB n os = true) :
    txnF l n a = (os, 0, a + (encT os).length) ∧ l.drop (a + (encT os).length) = r := by
  obtain ⟨h1, h8, ho⟩ := rightB_iff hr
  have hm : ((os.length : Int) % 256) = os.length := by omega
  have hd : l.drop a = (os.length : Int) :: (os.flatMap opB ++ r) := by rw [h]; unfold encT; rw [hm]; rfl
  have hc := count_put hd (lo := 1) (hi := 8) (by omega) (by omega)
  obtain ⟨_, _, d⟩ := at_cons hd
  obtain ⟨q1, q2⟩ := ops_put hn os [] (a + 1) r d ho
  have hL : (encT os).length = 1 + 3 * os.length := by unfold encT; rw [List.length_cons, opsB_len]; omega
  unfold txnF
  rw [hc, if_neg (by simp)]
  simp only [Int.toNat_natCast]
  rw [q1, hL]
  refine ⟨?_, ?_⟩
  · simp only [List.nil_append, Prod.mk.injEq, true_and]; omega
  · rw [← q2]; congr 1; omega
theorem txns_put {l : List Int} {n : Int} (hn : n ≤ 256) : ∀ (tl acc : List (List S80)) (a : Nat) (r : List Int), l.drop a = tl.flatMap encT ++ r → (∀ t ∈ tl, rightB n t = true) →
    txnsF l n tl.length a acc = (acc ++ tl, 0, a + (tl.flatMap encT).length) ∧ l.drop (a + (tl.flatMap encT).length) = r
  | [], acc, a, r, h, _ => by simpa [txnsF] using h
  | t :: tl, acc, a, r, h, ho => by
    rw [List.flatMap_cons, List.append_assoc] at h
    obtain ⟨e, d⟩ := txn_put hn t a _ h (ho t (by simp))
    obtain ⟨q1, q2⟩ := txns_put hn tl (acc ++ [t]) (a + (encT t).length) r d (fun x hx => ho x (by simp [hx]))
    simp only [List.length_cons, txnsF]
    rw [e, if_neg (by simp)]
    simp only
    rw [q1, List.flatMap_cons, List.length_append]
    refine ⟨?_, ?_⟩
    · simp only [List.append_assoc, List.singleton_append, Prod.mk.injEq, true_and]
      omega
    · rw [← q2]; congr 1; omega
theorem txnsB_iff {n : Int} {tl : List (List S80)} (h : txnsB n tl = true) : tl.length ≤ 6 ∧ ∀ t ∈ tl, rightB n t = true := by
  unfold txnsB at h
  simp only [Bool.and_eq_true, decide_eq_true_eq, List.all_eq_true] at h
  exact h
theorem all_put {l : List Int} {n : Int} (hn : n ≤ 256) : ∀ (al acc : List (List (List S80))) (a : Nat) (r : List Int), l.drop a = al.flatMap encA ++ r → (∀ t ∈ al, txnsB n t = true) →
    allF l n al.length a acc = (0, a + (al.flatMap encA).length, acc ++ al) ∧ l.drop (a + (al.flatMap encA).length) = r
  | [], acc, a, r, h, _ => by simpa [allF] using h
  | t :: al, acc, a, r, h, ho => by
    rw [List.flatMap_cons, List.append_assoc] at h
    obtain ⟨h6, ht⟩ := txnsB_iff (ho t (by simp))
    have hm : ((t.length : Int) % 256) = t.length := by omega
    have hd : l.drop a = (t.length : Int) :: (t.flatMap encT ++ (al.flatMap encA ++ r)) := by rw [h]; unfold encA; rw [hm]; simp
    have hc := count_put hd (lo := 0) (hi := 6) (by omega) (by omega)
    obtain ⟨_, _, d⟩ := at_cons hd
    obtain ⟨e, d'⟩ := txns_put hn t [] (a + 1) _ d ht
    obtain ⟨q1, q2⟩ := all_put hn al (acc ++ [t]) _ r d' (fun x hx => ho x (by simp [hx]))
    simp only [List.length_cons, allF]
    rw [hc, if_neg (by simp)]
    simp only [Int.toNat_natCast]
    rw [e, if_neg (by simp)]
    simp only [List.nil_append]
    rw [q1, List.flatMap_cons, List.length_append]
    have hL : (encA t).length = 1 + (t.flatMap encT).length := by unfold encA; rw [List.length_cons]; omega
    refine ⟨?_, ?_⟩
    · simp only [List.append_assoc, List.singleton_append, Prod.mk.injEq, true_and, and_true]
      omega
    · rw [← q2]; congr 1; omega
/-- What okS says. -/
structure OkS (c : S25) (f d : List Int) (a : List (List (List S80))) (p : List Int) : Prop where
  c0 : 1 ≤ c.f0 ∧ c.f0 ≤ 8
  c1 : 1 ≤ c.f1 ∧ c.f1 ≤ 6
  c2 : 1 ≤ c.f2 ∧ c.f2 ≤ 4096
  c3 : 0 ≤ c.f3 ∧ c.f3 ≤ 255
  c4 : 1 ≤ c.f4 ∧ c.f4 ≤ 4
  c5 : 1 ≤ c.f5 ∧ c.f5 ≤ 64
  rec_ : 2 * c.f0 ≤ c.f2
  fl : (f.length : Int) = c.f0
  fr : ∀ x ∈ f, -128 ≤ x ∧ x ≤ 127
  al : (a.length : Int) = c.f1
  at_ : ∀ t ∈ a, txnsB c.f0 t = true
  dl : (d.length : Int) ≤ 255
  pr : ∀ x ∈ p, 0 ≤ x ∧ x ≤ 255
theorem okS_iff (c : S25) (f d : List Int) (a : List (List (List S80))) (p : List Int) : okS c f d a p = true ↔ OkS c f d a p := by
  unfold okS checkB small64.in smallT.in
  simp only [Bool.and_eq_true, decide_eq_true_eq, List.all_eq_true]
  constructor
  · rintro ⟨⟨⟨⟨⟨⟨⟨⟨h0, h1, h2, h3, h4, h5⟩, h6⟩, h7⟩, h8⟩, h9⟩, h10⟩, h11⟩, h12⟩
    have e : wrap64 (2 * c.f0) = 2 * c.f0 := by unfold wrap64; omega
    exact ⟨h0, h1, h2, h3, h4, h5, by omega, h6, h8, h9, h12, h10, h11⟩
  · intro h
    have e : wrap64 (2 * c.f0) = 2 * c.f0 := by have := h.c0; unfold wrap64; omega
    exact ⟨⟨⟨⟨⟨⟨⟨⟨h.c0, h.c1, h.c2, h.c3, h.c4, h.c5⟩, h.fl⟩, by rw [e]; exact h.rec_⟩, h.fr⟩, h.al⟩, h.dl⟩, h.pr⟩, h.at_⟩
theorem OkS.check {c : S25} {f d : List Int} {a : List (List (List S80))} {p : List Int} (h : OkS c f d a p) : checkB c = true := by
  unfold checkB
  exact decide_eq_true ⟨h.c0, h.c1, h.c2, h.c3, h.c4, h.c5⟩
theorem byte_id : ∀ p : List Int, (∀ x ∈ p, 0 ≤ x ∧ x ≤ 255) → p.map (· % 256) = p
  | [], _ => rfl
  | x :: p, h => by
    have hx := h x (by simp)
    rw [List.map_cons, byte_id p (fun y hy => h y (by simp [hy]))]
    congr 1
    omega
theorem sgn_id : ∀ p : List Int, (∀ x ∈ p, -128 ≤ x ∧ x ≤ 127) → (p.map (· % 256)).map sgn = p
  | [], _ => rfl
  | x :: p, h => by
    have hx := h x (by simp)
    rw [List.map_cons, List.map_cons, sgn_id p (fun y hy => h y (by simp [hy]))]
    congr 1
    unfold sgn
    split <;> omega
theorem putF_more (c : S25) (f d : List Int) (a : List (List (List S80))) (p more : List Int) : putF c f d a p ++ more = head7 c ++ (f.map (· % 256) ++ (a.flatMap encA ++ ((d.length : Int) % 256 :: (d ++ (p.map (· % 256) ++ more))))) := by
  unfold putF
  simp
theorem cfg_put {c : S25} {l r : List Int} (h : l = head7 c ++ r) (hc : checkB c = true) : 7 ≤ l.length ∧ cfgOf l 0 = c := by
  subst h
  unfold checkB at hc
  have hc := of_decide_eq_true hc
  refine ⟨by simp [head7], ?_⟩
  obtain ⟨c0, c1, c2, c3, c4, c5⟩ := c
  simp only at hc
  unfold cfgOf head7
  simp only [List.cons_append, List.nil_append, List.getD_cons_zero, List.getD_cons_succ, Nat.zero_add]
  congr 1 <;> omega
/-- What was put, and any bytes behind it, is got: the bytes behind it are picks. -/
theorem get_put_more {c : S25} {f d : List Int} {a : List (List (List S80))} {p : List Int} (h : OkS c f d a p) (hd : isB d) (more : List Int) :
    ∃ at_, getF (putF c f d a p ++ more) = (⟨at_, c, f, d, a, p ++ more⟩, -1, 0) := by
  have hl := putF_more c f d a p more
  generalize putF c f d a p ++ more = l at hl
  obtain ⟨h7, hcfg⟩ := cfg_put hl h.check
  have c0 := h.c0
  have c1 := h.c1
  have hfl := h.fl
  have hal := h.al
  have hdl := h.dl
  have d7 : l.drop 7 = f.map (· % 256) ++ (a.flatMap encA ++ ((d.length : Int) % 256 :: (d ++ (p.map (· % 256) ++ more)))) := by rw [hl]; rfl
  have s0 : stepF l 0 rd0 = (0, { rd0 with at_ := 7, c := c }) := by
    show configF l rd0 = _
    unfold configF
    have e0 : rd0.at_ = 0 := rfl
    rw [e0, hcfg, if_neg (by omega), if_neg (by rw [h.check]; simp), if_neg (by have := h.rec_; omega)]
  have eL : c.f0.toNat = f.length := by omega
  have d8 : l.drop (7 + f.length) = a.flatMap encA ++ ((d.length : Int) % 256 :: (d ++ (p.map (· % 256) ++ more))) := by
    rw [← List.drop_drop, d7, List.drop_left' (by simp)]
  have h8 : 7 + f.length ≤ l.length := by
    have := congrArg List.length d7
    simp only [List.length_drop, List.length_append, List.length_map] at this
    omega
  have s1 : stepF l 1 { rd0 with at_ := 7, c := c } = (0, { rd0 with at_ := 7 + f.length, c := c, f := f }) := by
    show firstF l _ = _
    unfold firstF
    simp only
    rw [if_neg (by omega), eL, d7, List.take_left' (by simp), sgn_id f h.fr]
    rfl
  obtain ⟨q1, q2⟩ := all_put (l := l) (n := c.f0) (by omega) a [] (7 + f.length) _ d8 h.at_
  have eA : c.f1.toNat = a.length := by omega
  generalize 7 + f.length + (a.flatMap encA).length = t at q1 q2
  have s2 : stepF l 2 { rd0 with at_ := 7 + f.length, c := c, f := f } = (0, { rd0 with at_ := t, c := c, f := f, a := a }) := by
    show allR l _ = _
    unfold allR
    simp only
    rw [eA, show rd0.a = [] from rfl, q1]
    rfl
  have hm : ((d.length : Int) % 256) = d.length := by omega
  rw [hm] at q2
  have hc := count_put q2 (lo := 0) (hi := 255) (by omega) (by omega)
  obtain ⟨lt, _, q3⟩ := at_cons q2
  have h9 : t + 1 + d.length ≤ l.length := by
    have := congrArg List.length q3
    simp only [List.length_drop, List.length_append] at this
    omega
  have s3 : stepF l 3 { rd0 with at_ := t, c := c, f := f, a := a } = (0, { rd0 with at_ := t + 1 + d.length, c := c, f := f, a := a, d := d }) := by
    show drawsF l _ = _
    unfold drawsF
    simp only
    rw [hc]
    simp only [Int.toNat_natCast]
    rw [if_neg (by simp), if_neg (by omega), q3, List.take_left' rfl]
  have s4 : stepF l 4 { rd0 with at_ := t + 1 + d.length, c := c, f := f, a := a, d := d } = (0, { rd0 with at_ := t + 1 + d.length, c := c, f := f, a := a, d := d, p := p ++ more }) := by
    show picksF l _ = _
    unfold picksF
    simp only
    rw [← List.drop_drop, q3, List.drop_left' rfl, byte_id p h.pr]
    rfl
  refine ⟨t + 1 + d.length, ?_⟩
  unfold getF
  simp only [runF, s0, s1, s2, s3, s4, ne_eq, not_true, if_false]
end Go.Proofs.Ythfkgnkojhocbaa.S
end
section
namespace Go.Proofs.Ythfkgnkojhocbaa.S
open Go Go.RowKit Go.Proofs.YthfkgnkojhocbaaW.PrintWords
set_option linter.unusedVariables false
set_option linter.unusedSimpArgs false
/-- Of what stands one behind the other: cut in the first, or behind it. -/
theorem cut2 {x z p q : List Int} (h : x ++ z = p ++ q) : (∃ y, y ≠ [] ∧ x ++ y = p ∧ z = y ++ q) ∨ (∃ y, x = p ++ y ∧ y ++ z = q) := by
  rcases List.append_eq_append_iff.1 h with ⟨y, h1, h2⟩ | ⟨y, h1, h2⟩
  · by_cases hy : y = []
    · subst hy
      exact .inr ⟨[], by simpa using h1.symm, by simpa using h2⟩
    · exact .inl ⟨y, hy, h1.symm, h2⟩
  · exact .inr ⟨y, h1, h2.symm⟩
theorem count_end {l : List Int} {a : Nat} {lo hi : Int} (h : l.drop a = []) (ha : a ≤ l.length) : countF l a lo hi = (0, 9, l.length) := by
  have : l.length ≤ a := List.drop_eq_nil_iff.1 h
  unfold countF
  rw [if_pos (by omega)]
theorem ops_cut {l : List Int} {n : Int} (hn : n ≤ 256) : ∀ (os acc : List S80) (a : Nat) (z : List Int), z ≠ [] → a ≤ l.length → l.drop a ++ z = os.flatMap opB → (∀ o ∈ os, okB o n = true) →
    opsF l n os.length a acc = ([], 9, l.length)
  | [], acc, a, z, hz, ha, h, _ => by
    simp at h
    exact absurd h.2 hz
  | o :: os, acc, a, z, hz, ha, h, ho => by
    rw [List.flatMap_cons] at h
    simp only [List.length_cons, opsF]
    rcases cut2 h with ⟨y, hy, h1, h2⟩ | ⟨y, h1, h2⟩
    · have := congrArg List.length h1
      have hy' : 0 < y.length := List.length_pos_iff.2 hy
      simp only [List.length_append, List.length_drop, opB, List.length_cons, List.length_nil] at this
      rw [if_pos (by omega)]
    · obtain ⟨h3, e, d⟩ := op_put h1 (ho o (by simp)) hn
      rw [if_neg (by omega), e, if_neg (by simp [ho o (by simp)])]
      exact ops_cut hn os _ (a + 3) z hz h3 (by rw [d]; exact h2) (fun x hx => ho x (by simp [hx]))
theorem txn_cut {l : List Int} {n : Int} (hn : n ≤ 256) (os : List S80) (a : Nat) (z : List Int) (hz : z ≠ []) (ha : a ≤ l.length) (h : l.drop a ++ z = encT os) (hr : rightB n os = true) :
    txnF l n a = ([], 9, l.length) := by
  obtain ⟨h1, h8, ho⟩ := rightB_iff hr
  have hm : ((os.length : Int) % 256) = os.length := by omega
  unfold txnF
  unfold encT at h
  rw [hm] at h
  cases hd : l.drop a with
  | nil => rw [count_end hd ha]; simp
  | cons x r =>
    rw [hd, List.cons_append] at h
    injection h with e1 e2
    subst e1
    rw [count_put hd (by omega) (by omega), if_neg (by simp)]
    obtain ⟨lt, _, d⟩ := at_cons hd
    simp only [Int.toNat_natCast]
    exact ops_cut hn os [] (a + 1) z hz (by omega) (by rw [d]; exact e2) ho
theorem txns_cut {l : List Int} {n : Int} (hn : n ≤ 256) : ∀ (tl acc : List (List S80)) (a : Nat) (z : List Int), z ≠ [] → a ≤ l.length → l.drop a ++ z = tl.flatMap encT → (∀ t ∈ tl, rightB n t = true) →
    txnsF l n tl.length a acc = ([], 9, l.length)
  | [], acc, a, z, hz, ha, h, _ => by
    simp at h
    exact absurd h.2 hz
  | t :: tl, acc, a, z, hz, ha, h, ho => by
    rw [List.flatMap_cons] at h
    simp only [List.length_cons, txnsF]
    rcases cut2 h with ⟨y, hy, h1, h2⟩ | ⟨y, h1, h2⟩
    · rw [txn_cut hn t a y hy ha h1 (ho t (by simp))]
      simp
    · obtain ⟨e, d⟩ := txn_put hn t a _ h1 (ho t (by simp))
      rw [e, if_neg (by simp)]
      have hL := congrArg List.length h1
      simp only [List.length_append, List.length_drop] at hL
      exact txns_cut hn tl _ _ z hz (by simp only; omega) (by simp only; rw [d]; exact h2) (fun x hx => ho x (by simp [hx]))
theorem all_cut {l : List Int} {n : Int} (hn : n ≤ 256) : ∀ (al acc : List (List (List S80))) (a : Nat) (z : List Int), z ≠ [] → a ≤ l.length → l.drop a ++ z = al.flatMap encA → (∀ t ∈ al, txnsB n t = true) →
    ∃ ac, allF l n al.length a acc = (9, l.length, ac)
  | [], acc, a, z, hz, ha, h, _ => by
    simp at h
    exact absurd h.2 hz
  | t :: al, acc, a, z, hz, ha, h, ho => by
    rw [List.flatMap_cons] at h
    obtain ⟨h6, ht⟩ := txnsB_iff (ho t (by simp))
    have hm : ((t.length : Int) % 256) = t.length := by omega
    simp only [List.length_cons, allF]
    rcases cut2 h with ⟨y, hy, h1, h2⟩ | ⟨y, h1, h2⟩
    · unfold encA at h1
      rw [hm] at h1
      cases hd : l.drop a with
      | nil => exact ⟨acc, by rw [count_end hd ha]; simp⟩
      | cons x r =>
        rw [hd, List.cons_append] at h1
        injection h1 with e1 e2
        subst e1
        refine ⟨acc, ?_⟩
        rw [count_put hd (by omega) (by omega), if_neg (by simp)]
        obtain ⟨lt, _, d⟩ := at_cons hd
        simp only [Int.toNat_natCast]
        rw [txns_cut hn t [] (a + 1) y hy (by omega) (by rw [d]; exact e2) ht]
        simp
    · have hd : l.drop a = (t.length : Int) :: (t.flatMap encT ++ y) := by rw [h1]; unfold encA; rw [hm]; simp
      have hL := congrArg List.length hd
      simp only [List.length_append, List.length_drop, List.length_cons] at hL
      rw [count_put hd (by omega) (by omega), if_neg (by simp)]
      obtain ⟨_, _, d⟩ := at_cons hd
      simp only [Int.toNat_natCast]
      obtain ⟨e, d'⟩ := txns_put hn t [] (a + 1) _ d ht
      rw [e, if_neg (by simp)]
      exact all_cut hn al _ _ z hz (by simp only; omega) (by simp only; rw [d']; exact h2) (fun x hx => ho x (by simp [hx]))
/-- A part that fails ends it. -/
theorem run_bad {l : List Int} {n i : Nat} {s s' : Rd} {e : Int} (h : stepF l i s = (e, s')) (he : e ≠ 0) : runF l (n + 1) i s = (e, s') := by
  simp only [runF, h]
  rw [if_pos he]
theorem run_good {l : List Int} {n i : Nat} {s s' : Rd} (h : stepF l i s = (0, s')) : runF l (n + 1) i s = runF l n (i + 1) s' := by
  simp only [runF, h]
  rw [if_neg (by simp)]
theorem get_bad {l : List Int} {e : Int} {s : Rd} (h : runF l 5 0 rd0 = (e, s)) (he : e ≠ 0) : getF l = (rd0, (s.at_ : Int), e) := by
  unfold getF
  rw [h, if_pos he]
/-- What was put without picks, and is cut anywhere, is short, at its end. -/
theorem get_cut {c : S25} {f d : List Int} {a : List (List (List S80))} (h : OkS c f d a []) (hd : isB d) (l z : List Int) (hz : z ≠ []) (hl : l ++ z = putF c f d a []) :
    getF l = (rd0, (l.length : Int), 9) := by
  have hz' : 0 < z.length := List.length_pos_iff.2 hz
  have c0 := h.c0
  have c1 := h.c1
  have hfl := h.fl
  have hal := h.al
  have hdl := h.dl
  have hm : ((d.length : Int) % 256) = d.length := by omega
  unfold putF at hl
  rcases cut2 hl with ⟨y, hy, h1, h2⟩ | ⟨y, h1, h2⟩
  · have hy' : 0 < y.length := List.length_pos_iff.2 hy
    have hL := congrArg List.length h1
    simp only [List.length_append, head7, List.length_cons, List.length_nil] at hL
    have s0 : stepF l 0 rd0 = (9, { rd0 with at_ := l.length }) := by
      show configF l rd0 = _
      unfold configF
      rw [if_pos (by show l.length < 0 + 7; omega)]
    rw [get_bad (run_bad s0 (by simp)) (by simp)]
  · obtain ⟨h7, hcfg⟩ := cfg_put h1 h.check
    have d7 : l.drop 7 = y := by rw [h1]; rfl
    have s0 : stepF l 0 rd0 = (0, { rd0 with at_ := 7, c := c }) := by
      show configF l rd0 = _
      unfold configF
      have e0 : rd0.at_ = 0 := rfl
      rw [e0, hcfg, if_neg (by omega), if_neg (by rw [h.check]; simp), if_neg (by have := h.rec_; omega)]
    have eL : c.f0.toNat = f.length := by omega
    rcases cut2 h2 with ⟨y2, hy2, h3, h4⟩ | ⟨y2, h3, h4⟩
    · have hy' : 0 < y2.length := List.length_pos_iff.2 hy2
      have hL := congrArg List.length h3
      simp only [List.length_append, List.length_map] at hL
      have hL7 := congrArg List.length d7
      simp only [List.length_drop] at hL7
      have s1 : stepF l 1 { rd0 with at_ := 7, c := c } = (9, { rd0 with at_ := l.length, c := c }) := by
        show firstF l _ = _
        unfold firstF
        simp only
        rw [if_pos (by omega)]
      rw [get_bad ((run_good s0).trans (run_bad s1 (by simp))) (by simp)]
    · have d8 : l.drop (7 + f.length) = y2 := by rw [← List.drop_drop, d7, h3, List.drop_left' (by simp)]
      have h8 : 7 + f.length ≤ l.length := by
        have hL := congrArg List.length h3
        have hL7 := congrArg List.length d7
        simp only [List.length_drop, List.length_append, List.length_map] at hL hL7
        omega
      have s1 : stepF l 1 { rd0 with at_ := 7, c := c } = (0, { rd0 with at_ := 7 + f.length, c := c, f := f }) := by
        show firstF l _ = _
        unfold firstF
        simp only
        rw [if_neg (by omega), eL, d7, h3, List.take_left' (by simp), sgn_id f h.fr]
        rfl
      have eA : c.f1.toNat = a.length := by omega
      rcases cut2 h4 with ⟨y3, hy3, h5, h6⟩ | ⟨y3, h5, h6⟩
      · obtain ⟨ac, q⟩ := all_cut (l := l) (n := c.f0) (by omega) a [] (7 + f.length) y3 hy3 h8 (by rw [d8]; exact h5) h.at_
        have s2 : stepF l 2 { rd0 with at_ := 7 + f.length, c := c, f := f } = (9, { rd0 with at_ := l.length, c := c, f := f, a := ac }) := by
          show allR l _ = _
          unfold allR
          simp only
          rw [eA, show rd0.a = [] from rfl, q]
        rw [get_bad ((run_good s0).trans ((run_good s1).trans (run_bad s2 (by simp)))) (by simp)]
      · obtain ⟨q1, q2⟩ := all_put (l := l) (n := c.f0) (by omega) a [] (7 + f.length) y3 (by rw [d8]; exact h5) h.at_
        have hL := congrArg List.length h5
        have hL8 := congrArg List.length d8
        simp only [List.length_append, List.length_drop] at hL hL8
        have ht : 7 + f.length + (a.flatMap encA).length ≤ l.length := by omega
        generalize 7 + f.length + (a.flatMap encA).length = t at q1 q2 ht
        have s2 : stepF l 2 { rd0 with at_ := 7 + f.length, c := c, f := f } = (0, { rd0 with at_ := t, c := c, f := f, a := a }) := by
          show allR l _ = _
          unfold allR
          simp only
          rw [eA, show rd0.a = [] from rfl, q1]
          rfl
        have s3 : stepF l 3 { rd0 with at_ := t, c := c, f := f, a := a } = (9, { rd0 with at_ := l.length, c := c, f := f, a := a }) := by
          show drawsF l _ = _
          unfold drawsF
          simp only
          cases hy3 : y3 with
          | nil =>
            rw [hy3] at q2
            rw [count_end q2 ht]
            simp
          | cons x r =>
            rw [hy3] at q2 h6
            rw [hm, List.cons_append] at h6
            injection h6 with e1 e2
            subst e1
            rw [count_put q2 (by omega) (by omega)]
            obtain ⟨lt, _, q3⟩ := at_cons q2
            simp only [Int.toNat_natCast]
            have hL9 := congrArg List.length e2
            have hL3 := congrArg List.length q3
            simp only [List.length_append, List.length_drop, List.map_nil, List.length_nil] at hL9 hL3
            rw [if_neg (by simp), if_pos (by omega)]
        rw [get_bad ((run_good s0).trans ((run_good s1).trans ((run_good s2).trans (run_bad s3 (by simp))))) (by simp)]
end Go.Proofs.Ythfkgnkojhocbaa.S
end
section
namespace Go.Proofs.Ythfkgnkojhocbaa.S
open Go Go.RowKit Go.Proofs.YthfkgnkojhocbaaW.PrintWords
set_option linter.unusedVariables false
set_option linter.unusedSimpArgs false
theorem isB_at {l : List Int} (h : isB l) (a : Nat) : 0 ≤ l.getD a 0 ∧ l.getD a 0 ≤ 255 := by
  rcases Nat.lt_or_ge a l.length with h1 | h1
  · have := h _ (List.getElem_mem h1)
    simpa [h1] using this
  · simp [h1]
theorem isB_take {l : List Int} (h : isB l) (a : Nat) : isB (l.take a) := fun x hx => h x (List.mem_of_mem_take hx)
end Go.Proofs.Ythfkgnkojhocbaa.S
end
section
namespace Go.Proofs.Ythfkgnkojhocbaa.S
open Go.RowKit Go.Proofs.YthfkgnkojhocbaaW.PrintWords Go.Proofs.YthfkgnkojhocbaaW.PrintLast Go.Proofs.YthfkgnkojhocbaaW.PrintMore
attribute [local go_sem] max2_int min2_int max_two min_two max_three min_three max_four min_four
set_option linter.unusedVariables false
set_option linter.unusedSimpArgs false
theorem eqA80 (d : Nat) (w : World) (x0 y0 : Int) (x1 y1 : Int) (x2 y2 : Int) :
    (Op.equalIn (d + 2) 80 (.agg #[.int .i64 x0, .int .i64 x1, .int .i64 x2]) (.agg #[.int .i64 y0, .int .i64 y1, .int .i64 y2])).run Try.prog w = .ok (x0 == y0 && (x1 == y1 && (x2 == y2))) w := by
  refine eqA_of Try.underlying80 (by kernel_rfl) ?_
  refine eqf_cons (by rfl) (by go_simp; rfl) (by go_simp; rfl) (by go_simp) ?_
  refine eqf_cons (by rfl) (by go_simp; rfl) (by go_simp; rfl) (by go_simp) ?_
  exact eqf_last (by rfl) (by go_simp; rfl) (by go_simp; rfl) (by go_simp)
end Go.Proofs.Ythfkgnkojhocbaa.S
end
section
namespace Go.Proofs.Ythfkgnkojhocbaa.S
open Go.RowKit Go.Proofs.YthfkgnkojhocbaaW.PrintWords Go.Proofs.YthfkgnkojhocbaaW.PrintLast Go.Proofs.YthfkgnkojhocbaaW.PrintMore
attribute [local go_sem] max2_int min2_int max_two min_two max_three min_three max_four min_four
set_option linter.unusedVariables false
set_option linter.unusedSimpArgs false
attribute [local go_sem high] eqA80
def quarrelref01_Ints.l0 : Nat → List Int → List Int → Int → Option (Bool)
  | 0, _, _, _ => none
  | k + 1, x0, x1, x5 => if x5 < (x0.length : Int) then (if 0 ≤ x5 then (if x5 < (x1.length : Int) then (if (rd x0 x5) = (rd x1 x5) then (quarrelref01_Ints.l0 k x0 x1 (wrap64 (x5 + 1))) else (some false)) else (none)) else (none)) else (some true)
def quarrelref01_Ints.f (k : Nat) (l0 : List Int) (l1 : List Int) : Option (Bool) := if (l0.length : Int) = (l1.length : Int) then (quarrelref01_Ints.l0 k l0 l1 0) else (some false)
theorem quarrelref01_Ints.mono_l : ∀ k, (∀ y0 y1 y2, LeO (quarrelref01_Ints.l0 k y0 y1 y2) (quarrelref01_Ints.l0 (k + 1) y0 y1 y2))
  | 0 => fun _ _ _ r h => by simp [quarrelref01_Ints.l0] at h
  | k + 1 => by
    have ih0 := quarrelref01_Ints.mono_l k
    · intro y0 y1 y2
      unfold quarrelref01_Ints.l0
      repeat' first
      | (with_reducible exact ih0 _ _ _)
      | (with_reducible exact LeO.refl _)
      | (with_reducible exact LeO.none _)
      | (with_reducible refine LeO.ite ?_ ?_)
      | (with_reducible refine LeO.bind ?_ (fun _ => ?_))
      | exact ih0 _ _ _
      | exact LeO.none _
      | refine LeO.ite ?_ ?_
      | refine LeO.bind ?_ (fun _ => ?_)
theorem quarrelref01_Ints.mono : ∀ a0 a1 k, LeO (quarrelref01_Ints.f k a0 a1) (quarrelref01_Ints.f (k + 1) a0 a1) := by
  intro a0 a1 k
  have ih0 := quarrelref01_Ints.mono_l k
  unfold quarrelref01_Ints.f
  repeat' first
      | (with_reducible exact ih0 _ _ _)
      | (with_reducible exact LeO.refl _)
      | (with_reducible exact LeO.none _)
      | (with_reducible refine LeO.ite ?_ ?_)
      | (with_reducible refine LeO.bind ?_ (fun _ => ?_))
      | exact ih0 _ _ _
      | exact LeO.none _
      | refine LeO.ite ?_ ?_
      | refine LeO.bind ?_ (fun _ => ?_)
def quarrelref11_Same.l0 : Nat → List (S80) → List (S80) → Int → Option (Bool)
  | 0, _, _, _ => none
  | k + 1, x0, x1, x5 => if x5 < (x0.length : Int) then (if 0 ≤ x5 then (if x5 < (x1.length : Int) then (if (!(((rd_T80 x0 x5).f0) == ((rd_T80 x1 x5).f0)) || (!(((rd_T80 x0 x5).f1) == ((rd_T80 x1 x5).f1)) || (!(((rd_T80 x0 x5).f2) == ((rd_T80 x1 x5).f2))))) = true then (some false) else (quarrelref11_Same.l0 k x0 x1 (wrap64 (x5 + 1)))) else (none)) else (none)) else (some true)
def quarrelref11_Same.f (k : Nat) (l0 : List (S80)) (l1 : List (S80)) : Option (Bool) := if (l0.length : Int) = (l1.length : Int) then (quarrelref11_Same.l0 k l0 l1 0) else (some false)
theorem quarrelref11_Same.mono_l : ∀ k, (∀ y0 y1 y2, LeO (quarrelref11_Same.l0 k y0 y1 y2) (quarrelref11_Same.l0 (k + 1) y0 y1 y2))
  | 0 => fun _ _ _ r h => by simp [quarrelref11_Same.l0] at h
  | k + 1 => by
    have ih0 := quarrelref11_Same.mono_l k
    · intro y0 y1 y2
      unfold quarrelref11_Same.l0
      repeat' first
      | (with_reducible exact ih0 _ _ _)
      | (with_reducible exact LeO.refl _)
      | (with_reducible exact LeO.none _)
      | (with_reducible refine LeO.ite ?_ ?_)
      | (with_reducible refine LeO.bind ?_ (fun _ => ?_))
      | exact ih0 _ _ _
      | exact LeO.none _
      | refine LeO.ite ?_ ?_
      | refine LeO.bind ?_ (fun _ => ?_)
theorem quarrelref11_Same.mono : ∀ a0 a1 k, LeO (quarrelref11_Same.f k a0 a1) (quarrelref11_Same.f (k + 1) a0 a1) := by
  intro a0 a1 k
  have ih0 := quarrelref11_Same.mono_l k
  unfold quarrelref11_Same.f
  repeat' first
      | (with_reducible exact ih0 _ _ _)
      | (with_reducible exact LeO.refl _)
      | (with_reducible exact LeO.none _)
      | (with_reducible refine LeO.ite ?_ ?_)
      | (with_reducible refine LeO.bind ?_ (fun _ => ?_))
      | exact ih0 _ _ _
      | exact LeO.none _
      | refine LeO.ite ?_ ?_
      | refine LeO.bind ?_ (fun _ => ?_)
end Go.Proofs.Ythfkgnkojhocbaa.S
end
section
namespace Go.Proofs.Ythfkgnkojhocbaa.S
open Go.RowKit Go.Proofs.YthfkgnkojhocbaaW.PrintWords Go.Proofs.YthfkgnkojhocbaaW.PrintLast Go.Proofs.YthfkgnkojhocbaaW.PrintMore
attribute [local go_sem] max2_int min2_int max_two min_two max_three min_three max_four min_four
set_option linter.unusedVariables false
set_option linter.unusedSimpArgs false
attribute [local go_sem high] eqA25
mutual
def quarrellaw20_same.j0 : Nat → Bool → Int → Int → Int → Int → Int → Int → List Int → List Int → List (List (List (S80))) → List Int → Int → Int → Int → Int → Int → Int → List Int → List Int → List (List (List (S80))) → List Int → Option (Bool)
  | 0, _, _, _, _, _, _, _, _, _, _, _, _, _, _, _, _, _, _, _, _, _ => none
  | k + 1, x45, x174000, x174001, x174002, x174003, x174004, x174005, x174006, x174007, x174008, x174009, x175000, x175001, x175002, x175003, x175004, x175005, x175006, x175007, x175008, x175009 => if x45 = true then (some false) else (quarrellaw20_same.l0 k 0 x174000 x174001 x174002 x174003 x174004 x174005 x174006 x174007 x174008 x174009 x175000 x175001 x175002 x175003 x175004 x175005 x175006 x175007 x175008 x175009)
def quarrellaw20_same.l0 : Nat → Int → Int → Int → Int → Int → Int → Int → List Int → List Int → List (List (List (S80))) → List Int → Int → Int → Int → Int → Int → Int → List Int → List Int → List (List (List (S80))) → List Int → Option (Bool)
  | 0, _, _, _, _, _, _, _, _, _, _, _, _, _, _, _, _, _, _, _, _, _ => none
  | k + 1, x5, x174000, x174001, x174002, x174003, x174004, x174005, x174006, x174007, x174008, x174009, x175000, x175001, x175002, x175003, x175004, x175005, x175006, x175007, x175008, x175009 => if x5 < (x174008.length : Int) then (if 0 ≤ x5 then (if x5 < (x175008.length : Int) then (if ((rd_L7 x174008 x5).length : Int) = ((rd_L7 x175008 x5).length : Int) then (quarrellaw20_same.l1 k x5 0 x174000 x174001 x174002 x174003 x174004 x174005 x174006 x174007 x174008 x174009 x175000 x175001 x175002 x175003 x175004 x175005 x175006 x175007 x175008 x175009) else (some false)) else (none)) else (none)) else (some true)
def quarrellaw20_same.l1 : Nat → Int → Int → Int → Int → Int → Int → Int → Int → List Int → List Int → List (List (List (S80))) → List Int → Int → Int → Int → Int → Int → Int → List Int → List Int → List (List (List (S80))) → List Int → Option (Bool)
  | 0, _, _, _, _, _, _, _, _, _, _, _, _, _, _, _, _, _, _, _, _, _, _ => none
  | k + 1, x5, x6, x174000, x174001, x174002, x174003, x174004, x174005, x174006, x174007, x174008, x174009, x175000, x175001, x175002, x175003, x175004, x175005, x175006, x175007, x175008, x175009 => if 0 ≤ x5 then (if x5 < (x174008.length : Int) then (if x6 < ((rd_L7 x174008 x5).length : Int) then (if 0 ≤ x6 then (if x5 < (x175008.length : Int) then (if x6 < ((rd_L7 x175008 x5).length : Int) then ((quarrelref11_Same.f k (rd_L6 (rd_L7 x174008 x5) x6) (rd_L6 (rd_L7 x175008 x5) x6)).bind fun t184 => (if t184 = true then (quarrellaw20_same.l1 k x5 (wrap64 (x6 + 1)) x174000 x174001 x174002 x174003 x174004 x174005 x174006 x174007 x174008 x174009 x175000 x175001 x175002 x175003 x175004 x175005 x175006 x175007 x175008 x175009) else (some false))) else (none)) else (none)) else (none)) else (quarrellaw20_same.l0 k (wrap64 (x5 + 1)) x174000 x174001 x174002 x174003 x174004 x174005 x174006 x174007 x174008 x174009 x175000 x175001 x175002 x175003 x175004 x175005 x175006 x175007 x175008 x175009)) else (none)) else (none)
end
def quarrellaw20_same.f (k : Nat) (a0_0 : Int) (a0_1 : Int) (a0_2 : Int) (a0_3 : Int) (a0_4 : Int) (a0_5 : Int) (l0_6 : List Int) (l0_7 : List Int) (l0_8 : List (List (List (S80)))) (l0_9 : List Int) (a1_0 : Int) (a1_1 : Int) (a1_2 : Int) (a1_3 : Int) (a1_4 : Int) (a1_5 : Int) (l1_6 : List Int) (l1_7 : List Int) (l1_8 : List (List (List (S80)))) (l1_9 : List Int) : Option (Bool) := if (!(a0_0 == a1_0) || (!(a0_1 == a1_1) || (!(a0_2 == a1_2) || (!(a0_3 == a1_3) || (!(a0_4 == a1_4) || (!(a0_5 == a1_5))))))) = true then (quarrellaw20_same.j0 k true a0_0 a0_1 a0_2 a0_3 a0_4 a0_5 l0_6 l0_7 l0_8 l0_9 a1_0 a1_1 a1_2 a1_3 a1_4 a1_5 l1_6 l1_7 l1_8 l1_9) else ((quarrelref01_Vals.f k l0_6 l1_6).bind fun t175 => (if t175 = true then (if (strOfNums l0_7).toList = (strOfNums l1_7).toList then ((quarrelref01_Ints.f k l0_9 l1_9).bind fun t176 => (if t176 = true then (quarrellaw20_same.j0 k ((l0_8.length : Int) != (l1_8.length : Int)) a0_0 a0_1 a0_2 a0_3 a0_4 a0_5 l0_6 l0_7 l0_8 l0_9 a1_0 a1_1 a1_2 a1_3 a1_4 a1_5 l1_6 l1_7 l1_8 l1_9) else (quarrellaw20_same.j0 k true a0_0 a0_1 a0_2 a0_3 a0_4 a0_5 l0_6 l0_7 l0_8 l0_9 a1_0 a1_1 a1_2 a1_3 a1_4 a1_5 l1_6 l1_7 l1_8 l1_9))) else (quarrellaw20_same.j0 k true a0_0 a0_1 a0_2 a0_3 a0_4 a0_5 l0_6 l0_7 l0_8 l0_9 a1_0 a1_1 a1_2 a1_3 a1_4 a1_5 l1_6 l1_7 l1_8 l1_9)) else (quarrellaw20_same.j0 k true a0_0 a0_1 a0_2 a0_3 a0_4 a0_5 l0_6 l0_7 l0_8 l0_9 a1_0 a1_1 a1_2 a1_3 a1_4 a1_5 l1_6 l1_7 l1_8 l1_9)))
theorem quarrellaw20_same.mono_l : ∀ k, (∀ y0 y1 y2 y3 y4 y5 y6 y7 y8 y9 y10 y11 y12 y13 y14 y15 y16 y17 y18 y19 y20, LeO (quarrellaw20_same.j0 k y0 y1 y2 y3 y4 y5 y6 y7 y8 y9 y10 y11 y12 y13 y14 y15 y16 y17 y18 y19 y20) (quarrellaw20_same.j0 (k + 1) y0 y1 y2 y3 y4 y5 y6 y7 y8 y9 y10 y11 y12 y13 y14 y15 y16 y17 y18 y19 y20)) ∧ (∀ y0 y1 y2 y3 y4 y5 y6 y7 y8 y9 y10 y11 y12 y13 y14 y15 y16 y17 y18 y19 y20, LeO (quarrellaw20_same.l0 k y0 y1 y2 y3 y4 y5 y6 y7 y8 y9 y10 y11 y12 y13 y14 y15 y16 y17 y18 y19 y20) (quarrellaw20_same.l0 (k + 1) y0 y1 y2 y3 y4 y5 y6 y7 y8 y9 y10 y11 y12 y13 y14 y15 y16 y17 y18 y19 y20)) ∧ (∀ y0 y1 y2 y3 y4 y5 y6 y7 y8 y9 y10 y11 y12 y13 y14 y15 y16 y17 y18 y19 y20 y21, LeO (quarrellaw20_same.l1 k y0 y1 y2 y3 y4 y5 y6 y7 y8 y9 y10 y11 y12 y13 y14 y15 y16 y17 y18 y19 y20 y21) (quarrellaw20_same.l1 (k + 1) y0 y1 y2 y3 y4 y5 y6 y7 y8 y9 y10 y11 y12 y13 y14 y15 y16 y17 y18 y19 y20 y21))
  | 0 => ⟨fun _ _ _ _ _ _ _ _ _ _ _ _ _ _ _ _ _ _ _ _ _ r h => by simp [quarrellaw20_same.j0] at h, fun _ _ _ _ _ _ _ _ _ _ _ _ _ _ _ _ _ _ _ _ _ r h => by simp [quarrellaw20_same.l0] at h, fun _ _ _ _ _ _ _ _ _ _ _ _ _ _ _ _ _ _ _ _ _ _ r h => by simp [quarrellaw20_same.l1] at h⟩
  | k + 1 => by
    obtain ⟨ih0, ih1, ih2⟩ := quarrellaw20_same.mono_l k
    refine ⟨?_, ?_, ?_⟩
    · intro y0 y1 y2 y3 y4 y5 y6 y7 y8 y9 y10 y11 y12 y13 y14 y15 y16 y17 y18 y19 y20
      unfold quarrellaw20_same.j0
      repeat' first
      | (with_reducible exact ih0 _ _ _ _ _ _ _ _ _ _ _ _ _ _ _ _ _ _ _ _ _)
      | (with_reducible exact ih1 _ _ _ _ _ _ _ _ _ _ _ _ _ _ _ _ _ _ _ _ _)
      | (with_reducible exact ih2 _ _ _ _ _ _ _ _ _ _ _ _ _ _ _ _ _ _ _ _ _ _)
      | (with_reducible exact quarrelref01_Ints.mono _ _ _)
      | (with_reducible exact quarrelref01_Vals.mono _ _ _)
      | (with_reducible exact quarrelref11_Same.mono _ _ _)
      | (with_reducible exact LeO.refl _)
      | (with_reducible exact LeO.none _)
      | (with_reducible refine LeO.ite ?_ ?_)
      | (with_reducible refine LeO.bind ?_ (fun _ => ?_))
      | exact ih0 _ _ _ _ _ _ _ _ _ _ _ _ _ _ _ _ _ _ _ _ _
      | exact ih1 _ _ _ _ _ _ _ _ _ _ _ _ _ _ _ _ _ _ _ _ _
      | exact ih2 _ _ _ _ _ _ _ _ _ _ _ _ _ _ _ _ _ _ _ _ _ _
      | exact quarrelref01_Ints.mono _ _ _
      | exact quarrelref01_Vals.mono _ _ _
      | exact quarrelref11_Same.mono _ _ _
      | exact LeO.none _
      | refine LeO.ite ?_ ?_
      | refine LeO.bind ?_ (fun _ => ?_)
    · intro y0 y1 y2 y3 y4 y5 y6 y7 y8 y9 y10 y11 y12 y13 y14 y15 y16 y17 y18 y19 y20
      unfold quarrellaw20_same.l0
      repeat' first
      | (with_reducible exact ih0 _ _ _ _ _ _ _ _ _ _ _ _ _ _ _ _ _ _ _ _ _)
      | (with_reducible exact ih1 _ _ _ _ _ _ _ _ _ _ _ _ _ _ _ _ _ _ _ _ _)
      | (with_reducible exact ih2 _ _ _ _ _ _ _ _ _ _ _ _ _ _ _ _ _ _ _ _ _ _)
      | (with_reducible exact quarrelref01_Ints.mono _ _ _)
      | (with_reducible exact quarrelref01_Vals.mono _ _ _)
      | (with_reducible exact quarrelref11_Same.mono _ _ _)
      | (with_reducible exact LeO.refl _)
      | (with_reducible exact LeO.none _)
      | (with_reducible refine LeO.ite ?_ ?_)
      | (with_reducible refine LeO.bind ?_ (fun _ => ?_))
      | exact ih0 _ _ _ _ _ _ _ _ _ _ _ _ _ _ _ _ _ _ _ _ _
      | exact ih1 _ _ _ _ _ _ _ _ _ _ _ _ _ _ _ _ _ _ _ _ _
      | exact ih2 _ _ _ _ _ _ _ _ _ _ _ _ _ _ _ _ _ _ _ _ _ _
      | exact quarrelref01_Ints.mono _ _ _
      | exact quarrelref01_Vals.mono _ _ _
      | exact quarrelref11_Same.mono _ _ _
      | exact LeO.none _
      | refine LeO.ite ?_ ?_
      | refine LeO.bind ?_ (fun _ => ?_)
    · intro y0 y1 y2 y3 y4 y5 y6 y7 y8 y9 y10 y11 y12 y13 y14 y15 y16 y17 y18 y19 y20 y21
      unfold quarrellaw20_same.l1
      repeat' first
      | (with_reducible exact ih0 _ _ _ _ _ _ _ _ _ _ _ _ _ _ _ _ _ _ _ _ _)
      | (with_reducible exact ih1 _ _ _ _ _ _ _ _ _ _ _ _ _ _ _ _ _ _ _ _ _)
      | (with_reducible exact ih2 _ _ _ _ _ _ _ _ _ _ _ _ _ _ _ _ _ _ _ _ _ _)
      | (with_reducible exact quarrelref01_Ints.mono _ _ _)
      | (with_reducible exact quarrelref01_Vals.mono _ _ _)
      | (with_reducible exact quarrelref11_Same.mono _ _ _)
      | (with_reducible exact LeO.refl _)
      | (with_reducible exact LeO.none _)
      | (with_reducible refine LeO.ite ?_ ?_)
      | (with_reducible refine LeO.bind ?_ (fun _ => ?_))
      | exact ih0 _ _ _ _ _ _ _ _ _ _ _ _ _ _ _ _ _ _ _ _ _
      | exact ih1 _ _ _ _ _ _ _ _ _ _ _ _ _ _ _ _ _ _ _ _ _
      | exact ih2 _ _ _ _ _ _ _ _ _ _ _ _ _ _ _ _ _ _ _ _ _ _
      | exact quarrelref01_Ints.mono _ _ _
      | exact quarrelref01_Vals.mono _ _ _
      | exact quarrelref11_Same.mono _ _ _
      | exact LeO.none _
      | refine LeO.ite ?_ ?_
      | refine LeO.bind ?_ (fun _ => ?_)
theorem quarrellaw20_same.mono : ∀ a0 a1 a2 a3 a4 a5 a6 a7 a8 a9 a10 a11 a12 a13 a14 a15 a16 a17 a18 a19 k, LeO (quarrellaw20_same.f k a0 a1 a2 a3 a4 a5 a6 a7 a8 a9 a10 a11 a12 a13 a14 a15 a16 a17 a18 a19) (quarrellaw20_same.f (k + 1) a0 a1 a2 a3 a4 a5 a6 a7 a8 a9 a10 a11 a12 a13 a14 a15 a16 a17 a18 a19) := by
  intro a0 a1 a2 a3 a4 a5 a6 a7 a8 a9 a10 a11 a12 a13 a14 a15 a16 a17 a18 a19 k
  obtain ⟨ih0, ih1, ih2⟩ := quarrellaw20_same.mono_l k
  unfold quarrellaw20_same.f
  repeat' first
      | (with_reducible exact ih0 _ _ _ _ _ _ _ _ _ _ _ _ _ _ _ _ _ _ _ _ _)
      | (with_reducible exact ih1 _ _ _ _ _ _ _ _ _ _ _ _ _ _ _ _ _ _ _ _ _)
      | (with_reducible exact ih2 _ _ _ _ _ _ _ _ _ _ _ _ _ _ _ _ _ _ _ _ _ _)
      | (with_reducible exact quarrelref01_Ints.mono _ _ _)
      | (with_reducible exact quarrelref01_Vals.mono _ _ _)
      | (with_reducible exact quarrelref11_Same.mono _ _ _)
      | (with_reducible exact LeO.refl _)
      | (with_reducible exact LeO.none _)
      | (with_reducible refine LeO.ite ?_ ?_)
      | (with_reducible refine LeO.bind ?_ (fun _ => ?_))
      | exact ih0 _ _ _ _ _ _ _ _ _ _ _ _ _ _ _ _ _ _ _ _ _
      | exact ih1 _ _ _ _ _ _ _ _ _ _ _ _ _ _ _ _ _ _ _ _ _
      | exact ih2 _ _ _ _ _ _ _ _ _ _ _ _ _ _ _ _ _ _ _ _ _ _
      | exact quarrelref01_Ints.mono _ _ _
      | exact quarrelref01_Vals.mono _ _ _
      | exact quarrelref11_Same.mono _ _ _
      | exact LeO.none _
      | refine LeO.ite ?_ ?_
      | refine LeO.bind ?_ (fun _ => ?_)
end Go.Proofs.Ythfkgnkojhocbaa.S
end
section
namespace Go.Proofs.Ythfkgnkojhocbaa.S
open Go.RowKit Go.Proofs.YthfkgnkojhocbaaW.PrintWords Go.Proofs.YthfkgnkojhocbaaW.PrintLast Go.Proofs.YthfkgnkojhocbaaW.PrintMore
attribute [local go_sem] max2_int min2_int max_two min_two max_three min_three max_four min_four
set_option linter.unusedVariables false
set_option linter.unusedSimpArgs false
def quarrelref13_New.f (k : Nat) (a0_0 : Int) (a0_1 : Int) (a0_2 : Int) (a0_3 : Int) (a0_4 : Int) (a0_5 : Int) (l1 : List Int) : Option (Int) := (quarrelref13_Check.f k a0_0 a0_1 a0_2 a0_3 a0_4 a0_5).bind fun t243 => (if t243 = true then (if (l1.length : Int) = a0_0 then (if (wrap64 (2 * (l1.length : Int))) > a0_2 then (some 4) else (some 0)) else (some 3)) else (some 2))
theorem quarrelref13_New.mono : ∀ a0 a1 a2 a3 a4 a5 a6 k, LeO (quarrelref13_New.f k a0 a1 a2 a3 a4 a5 a6) (quarrelref13_New.f (k + 1) a0 a1 a2 a3 a4 a5 a6) := by
  intro a0 a1 a2 a3 a4 a5 a6 k
  unfold quarrelref13_New.f
  repeat' first
      | (with_reducible exact quarrelref13_Check.mono _ _ _ _ _ _ _)
      | (with_reducible exact LeO.refl _)
      | (with_reducible exact LeO.none _)
      | (with_reducible refine LeO.ite ?_ ?_)
      | (with_reducible refine LeO.bind ?_ (fun _ => ?_))
      | exact quarrelref13_Check.mono _ _ _ _ _ _ _
      | exact LeO.none _
      | refine LeO.ite ?_ ?_
      | refine LeO.bind ?_ (fun _ => ?_)
def quarrelref11_Right.l0 : Nat → List (S80) → Int → Int → Option (Bool)
  | 0, _, _, _ => none
  | k + 1, x0, x1, x5 => if x5 < (x0.length : Int) then (if 0 ≤ x5 then ((quarrelref11_Ok.f k ((rd_T80 x0 x5).f0) ((rd_T80 x0 x5).f1) ((rd_T80 x0 x5).f2) x1).bind fun t245 => (if t245 = true then (quarrelref11_Right.l0 k x0 x1 (wrap64 (x5 + 1))) else (some false))) else (none)) else (if (x0.length : Int) > 0 then (some (decide ((x0.length : Int) < 9))) else (some false))
def quarrelref11_Right.f (k : Nat) (l0 : List (S80)) (a1 : Int) : Option (Bool) := quarrelref11_Right.l0 k l0 a1 0
theorem quarrelref11_Right.mono_l : ∀ k, (∀ y0 y1 y2, LeO (quarrelref11_Right.l0 k y0 y1 y2) (quarrelref11_Right.l0 (k + 1) y0 y1 y2))
  | 0 => fun _ _ _ r h => by simp [quarrelref11_Right.l0] at h
  | k + 1 => by
    have ih0 := quarrelref11_Right.mono_l k
    · intro y0 y1 y2
      unfold quarrelref11_Right.l0
      repeat' first
      | (with_reducible exact ih0 _ _ _)
      | (with_reducible exact quarrelref11_Ok.mono _ _ _ _ _)
      | (with_reducible exact LeO.refl _)
      | (with_reducible exact LeO.none _)
      | (with_reducible refine LeO.ite ?_ ?_)
      | (with_reducible refine LeO.bind ?_ (fun _ => ?_))
      | exact ih0 _ _ _
      | exact quarrelref11_Ok.mono _ _ _ _ _
      | exact LeO.none _
      | refine LeO.ite ?_ ?_
      | refine LeO.bind ?_ (fun _ => ?_)
theorem quarrelref11_Right.mono : ∀ a0 a1 k, LeO (quarrelref11_Right.f k a0 a1) (quarrelref11_Right.f (k + 1) a0 a1) := by
  intro a0 a1 k
  have ih0 := quarrelref11_Right.mono_l k
  unfold quarrelref11_Right.f
  repeat' first
      | (with_reducible exact ih0 _ _ _)
      | (with_reducible exact quarrelref11_Ok.mono _ _ _ _ _)
      | (with_reducible exact LeO.refl _)
      | (with_reducible exact LeO.none _)
      | (with_reducible refine LeO.ite ?_ ?_)
      | (with_reducible refine LeO.bind ?_ (fun _ => ?_))
      | exact ih0 _ _ _
      | exact quarrelref11_Ok.mono _ _ _ _ _
      | exact LeO.none _
      | refine LeO.ite ?_ ?_
      | refine LeO.bind ?_ (fun _ => ?_)
end Go.Proofs.Ythfkgnkojhocbaa.S
end
section
namespace Go.Proofs.Ythfkgnkojhocbaa.S
open Go.RowKit Go.Proofs.YthfkgnkojhocbaaW.PrintWords Go.Proofs.YthfkgnkojhocbaaW.PrintLast Go.Proofs.YthfkgnkojhocbaaW.PrintMore
attribute [local go_sem] max2_int min2_int max_two min_two max_three min_three max_four min_four
set_option linter.unusedVariables false
set_option linter.unusedSimpArgs false
mutual
def quarrelref20_Ok.j0 : Nat → Bool → Int → Int → Int → Int → Int → Int → List Int → List Int → List (List (List (S80))) → List Int → Option (Bool)
  | 0, _, _, _, _, _, _, _, _, _, _, _ => none
  | k + 1, x27, x247000, x247001, x247002, x247003, x247004, x247005, x247006, x247007, x247008, x247009 => if x27 = true then (some false) else (quarrelref20_Ok.l0 k 0 x247000 x247001 x247002 x247003 x247004 x247005 x247006 x247007 x247008 x247009)
def quarrelref20_Ok.l0 : Nat → Int → Int → Int → Int → Int → Int → Int → List Int → List Int → List (List (List (S80))) → List Int → Option (Bool)
  | 0, _, _, _, _, _, _, _, _, _, _, _ => none
  | k + 1, x3, x247000, x247001, x247002, x247003, x247004, x247005, x247006, x247007, x247008, x247009 => if x3 < (x247006.length : Int) then (if 0 ≤ x3 then (if (rd x247006 x3) < (-128) then (some false) else (if (rd x247006 x3) > 127 then (some false) else (quarrelref20_Ok.l0 k (wrap64 (x3 + 1)) x247000 x247001 x247002 x247003 x247004 x247005 x247006 x247007 x247008 x247009))) else (none)) else (quarrelref20_Ok.l1 k 0 x247000 x247001 x247002 x247003 x247004 x247005 x247006 x247007 x247008 x247009)
def quarrelref20_Ok.l1 : Nat → Int → Int → Int → Int → Int → Int → Int → List Int → List Int → List (List (List (S80))) → List Int → Option (Bool)
  | 0, _, _, _, _, _, _, _, _, _, _, _ => none
  | k + 1, x4, x247000, x247001, x247002, x247003, x247004, x247005, x247006, x247007, x247008, x247009 => if x4 < (x247009.length : Int) then (if 0 ≤ x4 then (if (rd x247009 x4) < 0 then (some false) else (if (rd x247009 x4) > 255 then (some false) else (quarrelref20_Ok.l1 k (wrap64 (x4 + 1)) x247000 x247001 x247002 x247003 x247004 x247005 x247006 x247007 x247008 x247009))) else (none)) else (quarrelref20_Ok.l2 k 0 x247000 x247001 x247002 x247003 x247004 x247005 x247006 x247007 x247008 x247009)
def quarrelref20_Ok.l2 : Nat → Int → Int → Int → Int → Int → Int → Int → List Int → List Int → List (List (List (S80))) → List Int → Option (Bool)
  | 0, _, _, _, _, _, _, _, _, _, _, _ => none
  | k + 1, x5, x247000, x247001, x247002, x247003, x247004, x247005, x247006, x247007, x247008, x247009 => if x5 < (x247008.length : Int) then (if 0 ≤ x5 then (if ((rd_L7 x247008 x5).length : Int) > 6 then (some false) else (quarrelref20_Ok.l3 k x5 0 x247000 x247001 x247002 x247003 x247004 x247005 x247006 x247007 x247008 x247009)) else (none)) else (some true)
def quarrelref20_Ok.l3 : Nat → Int → Int → Int → Int → Int → Int → Int → Int → List Int → List Int → List (List (List (S80))) → List Int → Option (Bool)
  | 0, _, _, _, _, _, _, _, _, _, _, _, _ => none
  | k + 1, x5, x6, x247000, x247001, x247002, x247003, x247004, x247005, x247006, x247007, x247008, x247009 => if 0 ≤ x5 then (if x5 < (x247008.length : Int) then (if x6 < ((rd_L7 x247008 x5).length : Int) then (if 0 ≤ x6 then ((quarrelref11_Right.f k (rd_L6 (rd_L7 x247008 x5) x6) x247000).bind fun t256 => (if t256 = true then (quarrelref20_Ok.l3 k x5 (wrap64 (x6 + 1)) x247000 x247001 x247002 x247003 x247004 x247005 x247006 x247007 x247008 x247009) else (some false))) else (none)) else (quarrelref20_Ok.l2 k (wrap64 (x5 + 1)) x247000 x247001 x247002 x247003 x247004 x247005 x247006 x247007 x247008 x247009)) else (none)) else (none)
end
def quarrelref20_Ok.f (k : Nat) (a0_0 : Int) (a0_1 : Int) (a0_2 : Int) (a0_3 : Int) (a0_4 : Int) (a0_5 : Int) (l0_6 : List Int) (l0_7 : List Int) (l0_8 : List (List (List (S80)))) (l0_9 : List Int) : Option (Bool) := (quarrelref13_New.f k a0_0 a0_1 a0_2 a0_3 a0_4 a0_5 l0_6).bind fun t247 => (if t247 = 0 then (if (l0_8.length : Int) = a0_1 then (quarrelref20_Ok.j0 k (decide ((l0_7.length : Int) > 255)) a0_0 a0_1 a0_2 a0_3 a0_4 a0_5 l0_6 l0_7 l0_8 l0_9) else (quarrelref20_Ok.j0 k true a0_0 a0_1 a0_2 a0_3 a0_4 a0_5 l0_6 l0_7 l0_8 l0_9)) else (quarrelref20_Ok.j0 k true a0_0 a0_1 a0_2 a0_3 a0_4 a0_5 l0_6 l0_7 l0_8 l0_9))
theorem quarrelref20_Ok.mono_l : ∀ k, (∀ y0 y1 y2 y3 y4 y5 y6 y7 y8 y9 y10, LeO (quarrelref20_Ok.j0 k y0 y1 y2 y3 y4 y5 y6 y7 y8 y9 y10) (quarrelref20_Ok.j0 (k + 1) y0 y1 y2 y3 y4 y5 y6 y7 y8 y9 y10)) ∧ (∀ y0 y1 y2 y3 y4 y5 y6 y7 y8 y9 y10, LeO (quarrelref20_Ok.l0 k y0 y1 y2 y3 y4 y5 y6 y7 y8 y9 y10) (quarrelref20_Ok.l0 (k + 1) y0 y1 y2 y3 y4 y5 y6 y7 y8 y9 y10)) ∧ (∀ y0 y1 y2 y3 y4 y5 y6 y7 y8 y9 y10, LeO (quarrelref20_Ok.l1 k y0 y1 y2 y3 y4 y5 y6 y7 y8 y9 y10) (quarrelref20_Ok.l1 (k + 1) y0 y1 y2 y3 y4 y5 y6 y7 y8 y9 y10)) ∧ (∀ y0 y1 y2 y3 y4 y5 y6 y7 y8 y9 y10, LeO (quarrelref20_Ok.l2 k y0 y1 y2 y3 y4 y5 y6 y7 y8 y9 y10) (quarrelref20_Ok.l2 (k + 1) y0 y1 y2 y3 y4 y5 y6 y7 y8 y9 y10)) ∧ (∀ y0 y1 y2 y3 y4 y5 y6 y7 y8 y9 y10 y11, LeO (quarrelref20_Ok.l3 k y0 y1 y2 y3 y4 y5 y6 y7 y8 y9 y10 y11) (quarrelref20_Ok.l3 (k + 1) y0 y1 y2 y3 y4 y5 y6 y7 y8 y9 y10 y11))
  | 0 => ⟨fun _ _ _ _ _ _ _ _ _ _ _ r h => by simp [quarrelref20_Ok.j0] at h, fun _ _ _ _ _ _ _ _ _ _ _ r h => by simp [quarrelref20_Ok.l0] at h, fun _ _ _ _ _ _ _ _ _ _ _ r h => by simp [quarrelref20_Ok.l1] at h, fun _ _ _ _ _ _ _ _ _ _ _ r h => by simp [quarrelref20_Ok.l2] at h, fun _ _ _ _ _ _ _ _ _ _ _ _ r h => by simp [quarrelref20_Ok.l3] at h⟩
  | k + 1 => by
    obtain ⟨ih0, ih1, ih2, ih3, ih4⟩ := quarrelref20_Ok.mono_l k
    refine ⟨?_, ?_, ?_, ?_, ?_⟩
    · intro y0 y1 y2 y3 y4 y5 y6 y7 y8 y9 y10
      unfold quarrelref20_Ok.j0
      repeat' first
      | (with_reducible exact ih0 _ _ _ _ _ _ _ _ _ _ _)
      | (with_reducible exact ih1 _ _ _ _ _ _ _ _ _ _ _)
      | (with_reducible exact ih2 _ _ _ _ _ _ _ _ _ _ _)
      | (with_reducible exact ih3 _ _ _ _ _ _ _ _ _ _ _)
      | (with_reducible exact ih4 _ _ _ _ _ _ _ _ _ _ _ _)
      | (with_reducible exact quarrelref11_Right.mono _ _ _)
      | (with_reducible exact quarrelref13_New.mono _ _ _ _ _ _ _ _)
      | (with_reducible exact LeO.refl _)
      | (with_reducible exact LeO.none _)
      | (with_reducible refine LeO.ite ?_ ?_)
      | (with_reducible refine LeO.bind ?_ (fun _ => ?_))
      | exact ih0 _ _ _ _ _ _ _ _ _ _ _
      | exact ih1 _ _ _ _ _ _ _ _ _ _ _
      | exact ih2 _ _ _ _ _ _ _ _ _ _ _
      | exact ih3 _ _ _ _ _ _ _ _ _ _ _
      | exact ih4 _ _ _ _ _ _ _ _ _ _ _ _
      | exact quarrelref11_Right.mono _ _ _
      | exact quarrelref13_New.mono _ _ _ _ _ _ _ _
      | exact LeO.none _
      | refine LeO.ite ?_ ?_
      | refine LeO.bind ?_ (fun _ => ?_)
    · intro y0 y1 y2 y3 y4 y5 y6 y7 y8 y9 y10
      unfold quarrelref20_Ok.l0
      repeat' first
      | (with_reducible exact ih0 _ _ _ _ _ _ _ _ _ _ _)
      | (with_reducible exact ih1 _ _ _ _ _ _ _ _ _ _ _)
      | (with_reducible exact ih2 _ _ _ _ _ _ _ _ _ _ _)
      | (with_reducible exact ih3 _ _ _ _ _ _ _ _ _ _ _)
      | (with_reducible exact ih4 _ _ _ _ _ _ _ _ _ _ _ _)
      | (with_reducible exact quarrelref11_Right.mono _ _ _)
      | (with_reducible exact quarrelref13_New.mono _ _ _ _ _ _ _ _)
      | (with_reducible exact LeO.refl _)
      | (with_reducible exact LeO.none _)
      | (with_reducible refine LeO.ite ?_ ?_)
      | (with_reducible refine LeO.bind ?_ (fun _ => ?_))
      | exact ih0 _ _ _ _ _ _ _ _ _ _ _
      | exact ih1 _ _ _ _ _ _ _ _ _ _ _
      | exact ih2 _ _ _ _ _ _ _ _ _ _ _
      | exact ih3 _ _ _ _ _ _ _ _ _ _ _
      | exact ih4 _ _ _ _ _ _ _ _ _ _ _ _
      | exact quarrelref11_Right.mono _ _ _
      | exact quarrelref13_New.mono _ _ _ _ _ _ _ _
      | exact LeO.none _
      | refine LeO.ite ?_ ?_
      | refine LeO.bind ?_ (fun _ => ?_)
    · intro y0 y1 y2 y3 y4 y5 y6 y7 y8 y9 y10
      unfold quarrelref20_Ok.l1
      repeat' first
      | (with_reducible exact ih0 _ _ _ _ _ _ _ _ _ _ _)
      | (with_reducible exact ih1 _ _ _ _ _ _ _ _ _ _ _)
      | (with_reducible exact ih2 _ _ _ _ _ _ _ _ _ _ _)
      | (with_reducible exact ih3 _ _ _ _ _ _ _ _ _ _ _)
      | (with_reducible exact ih4 _ _ _ _ _ _ _ _ _ _ _ _)
      | (with_reducible exact quarrelref11_Right.mono _ _ _)
      | (with_reducible exact quarrelref13_New.mono _ _ _ _ _ _ _ _)
      | (with_reducible exact LeO.refl _)
      | (with_reducible exact LeO.none _)
      | (with_reducible refine LeO.ite ?_ ?_)
      | (with_reducible refine LeO.bind ?_ (fun _ => ?_))
      | exact ih0 _ _ _ _ _ _ _ _ _ _ _
      | exact ih1 _ _ _ _ _ _ _ _ _ _ _
      | exact ih2 _ _ _ _ _ _ _ _ _ _ _
      | exact ih3 _ _ _ _ _ _ _ _ _ _ _
      | exact ih4 _ _ _ _ _ _ _ _ _ _ _ _
      | exact quarrelref11_Right.mono _ _ _
      | exact quarrelref13_New.mono _ _ _ _ _ _ _ _
      | exact LeO.none _
      | refine LeO.ite ?_ ?_
      | refine LeO.bind ?_ (fun _ => ?_)
    · intro y0 y1 y2 y3 y4 y5 y6 y7 y8 y9 y10
      unfold quarrelref20_Ok.l2
      repeat' first
      | (with_reducible exact ih0 _ _ _ _ _ _ _ _ _ _ _)
      | (with_reducible exact ih1 _ _ _ _ _ _ _ _ _ _ _)
      | (with_reducible exact ih2 _ _ _ _ _ _ _ _ _ _ _)
      | (with_reducible exact ih3 _ _ _ _ _ _ _ _ _ _ _)
      | (with_reducible exact ih4 _ _ _ _ _ _ _ _ _ _ _ _)
      | (with_reducible exact quarrelref11_Right.mono _ _ _)
      | (with_reducible exact quarrelref13_New.mono _ _ _ _ _ _ _ _)
      | (with_reducible exact LeO.refl _)
      | (with_reducible exact LeO.none _)
      | (with_reducible refine LeO.ite ?_ ?_)
      | (with_reducible refine LeO.bind ?_ (fun _ => ?_))
      | exact ih0 _ _ _ _ _ _ _ _ _ _ _
      | exact ih1 _ _ _ _ _ _ _ _ _ _ _
      | exact ih2 _ _ _ _ _ _ _ _ _ _ _
      | exact ih3 _ _ _ _ _ _ _ _ _ _ _
      | exact ih4 _ _ _ _ _ _ _ _ _ _ _ _
      | exact quarrelref11_Right.mono _ _ _
      | exact quarrelref13_New.mono _ _ _ _ _ _ _ _
      | exact LeO.none _
      | refine LeO.ite ?_ ?_
      | refine LeO.bind ?_ (fun _ => ?_)
    · intro y0 y1 y2 y3 y4 y5 y6 y7 y8 y9 y10 y11
      unfold quarrelref20_Ok.l3
      repeat' first
      | (with_reducible exact ih0 _ _ _ _ _ _ _ _ _ _ _)
      | (with_reducible exact ih1 _ _ _ _ _ _ _ _ _ _ _)
      | (with_reducible exact ih2 _ _ _ _ _ _ _ _ _ _ _)
      | (with_reducible exact ih3 _ _ _ _ _ _ _ _ _ _ _)
      | (with_reducible exact ih4 _ _ _ _ _ _ _ _ _ _ _ _)
      | (with_reducible exact quarrelref11_Right.mono _ _ _)
      | (with_reducible exact quarrelref13_New.mono _ _ _ _ _ _ _ _)
      | (with_reducible exact LeO.refl _)
      | (with_reducible exact LeO.none _)
      | (with_reducible refine LeO.ite ?_ ?_)
      | (with_reducible refine LeO.bind ?_ (fun _ => ?_))
      | exact ih0 _ _ _ _ _ _ _ _ _ _ _
      | exact ih1 _ _ _ _ _ _ _ _ _ _ _
      | exact ih2 _ _ _ _ _ _ _ _ _ _ _
      | exact ih3 _ _ _ _ _ _ _ _ _ _ _
      | exact ih4 _ _ _ _ _ _ _ _ _ _ _ _
      | exact quarrelref11_Right.mono _ _ _
      | exact quarrelref13_New.mono _ _ _ _ _ _ _ _
      | exact LeO.none _
      | refine LeO.ite ?_ ?_
      | refine LeO.bind ?_ (fun _ => ?_)
theorem quarrelref20_Ok.mono : ∀ a0 a1 a2 a3 a4 a5 a6 a7 a8 a9 k, LeO (quarrelref20_Ok.f k a0 a1 a2 a3 a4 a5 a6 a7 a8 a9) (quarrelref20_Ok.f (k + 1) a0 a1 a2 a3 a4 a5 a6 a7 a8 a9) := by
  intro a0 a1 a2 a3 a4 a5 a6 a7 a8 a9 k
  obtain ⟨ih0, ih1, ih2, ih3, ih4⟩ := quarrelref20_Ok.mono_l k
  unfold quarrelref20_Ok.f
  repeat' first
      | (with_reducible exact ih0 _ _ _ _ _ _ _ _ _ _ _)
      | (with_reducible exact ih1 _ _ _ _ _ _ _ _ _ _ _)
      | (with_reducible exact ih2 _ _ _ _ _ _ _ _ _ _ _)
      | (with_reducible exact ih3 _ _ _ _ _ _ _ _ _ _ _)
      | (with_reducible exact ih4 _ _ _ _ _ _ _ _ _ _ _ _)
      | (with_reducible exact quarrelref11_Right.mono _ _ _)
      | (with_reducible exact quarrelref13_New.mono _ _ _ _ _ _ _ _)
      | (with_reducible exact LeO.refl _)
      | (with_reducible exact LeO.none _)
      | (with_reducible refine LeO.ite ?_ ?_)
      | (with_reducible refine LeO.bind ?_ (fun _ => ?_))
      | exact ih0 _ _ _ _ _ _ _ _ _ _ _
      | exact ih1 _ _ _ _ _ _ _ _ _ _ _
      | exact ih2 _ _ _ _ _ _ _ _ _ _ _
      | exact ih3 _ _ _ _ _ _ _ _ _ _ _
      | exact ih4 _ _ _ _ _ _ _ _ _ _ _ _
      | exact quarrelref11_Right.mono _ _ _
      | exact quarrelref13_New.mono _ _ _ _ _ _ _ _
      | exact LeO.none _
      | refine LeO.ite ?_ ?_
      | refine LeO.bind ?_ (fun _ => ?_)
end Go.Proofs.Ythfkgnkojhocbaa.S
end
section
namespace Go.Proofs.Ythfkgnkojhocbaa.S
open Go Go.RowKit Go.Proofs.YthfkgnkojhocbaaW.PrintWords
set_option linter.unusedVariables false
set_option linter.unusedSimpArgs false
theorem wrap_id {n : Int} (h : -9223372036854775808 ≤ n ∧ n ≤ 9223372036854775807) : wrap64 n = n := by unfold wrap64; omega
theorem wrap_succ {i : Nat} (h : i ≤ 1000000000000) : wrap64 ((i : Int) + 1) = ((i + 1 : Nat) : Int) := by unfold wrap64; omega
theorem rd_at (l : List Int) (i : Nat) : rd l (i : Int) = l.getD i 0 := by unfold rd; rw [Int.toNat_natCast]
theorem rd80_at (l : List S80) (i : Nat) (h : i < l.length) : rd_T80 l (i : Int) = l[i] := by unfold rd_T80; simp [h]
theorem rd6_at (l : List (List S80)) (i : Nat) (h : i < l.length) : rd_L6 l (i : Int) = l[i] := by unfold rd_L6; simp [h]
theorem rd7_at (l : List (List (List S80))) (i : Nat) (h : i < l.length) : rd_L7 l (i : Int) = l[i] := by unfold rd_L7; simp [h]
theorem vals_l (l : List Int) (hl : l.length ≤ 1000000) : ∀ (d k i : Nat), i + d = l.length → d < k → quarrelref01_Vals.l0 k l l (i : Int) = some true := by
  intro d
  induction d with
  | zero =>
    intro k i hi hk
    obtain ⟨k, rfl⟩ : ∃ m, k = m + 1 := ⟨k - 1, by omega⟩
    rw [quarrelref01_Vals.l0, if_neg (show ¬ ((i : Int) < (l.length : Int)) by omega)]
  | succ d ih =>
    intro k i hi hk
    obtain ⟨k, rfl⟩ : ∃ m, k = m + 1 := ⟨k - 1, by omega⟩
    rw [quarrelref01_Vals.l0, if_pos (show (i : Int) < (l.length : Int) by omega), if_pos (show (0 : Int) ≤ (i : Int) by omega), if_pos (show (i : Int) < (l.length : Int) by omega), if_pos rfl, wrap_succ (by omega)]
    exact ih k (i + 1) (by omega) (by omega)
theorem vals_f (l : List Int) (hl : l.length ≤ 1000000) (k : Nat) (hk : l.length < k) : quarrelref01_Vals.f k l l = some true := by
  unfold quarrelref01_Vals.f
  rw [if_pos rfl]
  exact vals_l l hl l.length k 0 (by omega) hk
/-- Few enough. -/
def Few (t : List (List S80)) : Prop := t.length ≤ 20 ∧ ∀ o ∈ t, o.length ≤ 20
section
variable (x0 x1 x2 x3 x4 x5 : Int) (f d p f' d' p' : List Int) (al : List (List (List S80))) (ha : al.length ≤ 10) (hf : ∀ t ∈ al, Few t)
include ha hf
end
section
variable (x0 x1 x2 x3 x4 x5 : Int) (f d : List Int) (al : List (List (List S80))) (ha : al.length ≤ 10)
include ha
theorem great_l1 (i : Nat) (hi : i < al.length) (h20 : al[i].length ≤ 20) (B : Nat) (H : ∀ k, B < k → ∃ v, quarrellaw16_Great.l0 k ((i + 1 : Nat) : Int) x0 x1 x2 x3 x4 x5 f d al = some v ∧ (v ≤ 0 → ∀ t ∈ al.drop (i + 1), Few t)) :
    ∀ (e k j : Nat), j + e = al[i].length → e + 1 + B < k → ∃ v, quarrellaw16_Great.l1 k (i : Int) (j : Int) x0 x1 x2 x3 x4 x5 f d al = some v ∧ (v ≤ 0 → (∀ o ∈ al[i].drop j, o.length ≤ 20) ∧ ∀ t ∈ al.drop (i + 1), Few t) := by
  have h7 := rd7_at al i hi
  intro e
  induction e with
  | zero =>
    intro k j hj hk
    obtain ⟨k, rfl⟩ : ∃ m, k = m + 1 := ⟨k - 1, by omega⟩
    rw [quarrellaw16_Great.l1, h7, if_pos (show (0 : Int) ≤ (i : Int) by omega), if_pos (show (i : Int) < (al.length : Int) by omega), if_neg (show ¬ ((j : Int) < (al[i].length : Int)) by omega), wrap_succ (by omega)]
    obtain ⟨v, e1, e2⟩ := H k (by omega)
    refine ⟨v, e1, fun h => ⟨fun o ho => ?_, e2 h⟩⟩
    rw [List.drop_eq_nil_of_le (by omega)] at ho
    cases ho
  | succ e ih =>
    intro k j hj hk
    obtain ⟨k, rfl⟩ : ∃ m, k = m + 1 := ⟨k - 1, by omega⟩
    have hj' : j < al[i].length := by omega
    rw [quarrellaw16_Great.l1, h7, if_pos (show (0 : Int) ≤ (i : Int) by omega), if_pos (show (i : Int) < (al.length : Int) by omega), if_pos (show (j : Int) < (al[i].length : Int) by omega), if_pos (show (0 : Int) ≤ (j : Int) by omega), rd6_at al[i] j hj']
    by_cases h : (al[i][j].length : Int) > 20
    · rw [if_pos h]
      exact ⟨1, rfl, fun h' => by omega⟩
    · rw [if_neg h, wrap_succ (by omega)]
      obtain ⟨v, e1, e2⟩ := ih k (j + 1) (by omega) (by omega)
      refine ⟨v, e1, fun h' => ⟨fun o ho => ?_, (e2 h').2⟩⟩
      rw [List.drop_eq_getElem_cons hj'] at ho
      rcases List.mem_cons.1 ho with rfl | ho
      · omega
      · exact (e2 h').1 o ho
theorem great_l0 : ∀ (e k i : Nat), i + e = al.length → 100 * e + 50 < k → ∃ v, quarrellaw16_Great.l0 k (i : Int) x0 x1 x2 x3 x4 x5 f d al = some v ∧ (v ≤ 0 → ∀ t ∈ al.drop i, Few t) := by
  intro e
  induction e with
  | zero =>
    intro k i hi hk
    obtain ⟨k, rfl⟩ : ∃ m, k = m + 1 := ⟨k - 1, by omega⟩
    rw [quarrellaw16_Great.l0, if_neg (show ¬ ((i : Int) < (al.length : Int)) by omega)]
    refine ⟨0, rfl, fun _ t ht => ?_⟩
    rw [List.drop_eq_nil_of_le (by omega)] at ht
    cases ht
  | succ e ih =>
    intro k i hi hk
    obtain ⟨k, rfl⟩ : ∃ m, k = m + 1 := ⟨k - 1, by omega⟩
    have hi' : i < al.length := by omega
    rw [quarrellaw16_Great.l0, if_pos (show (i : Int) < (al.length : Int) by omega), if_pos (show (0 : Int) ≤ (i : Int) by omega), rd7_at al i hi']
    by_cases h : (al[i].length : Int) > 20
    · rw [if_pos h]
      exact ⟨1, rfl, fun h' => by omega⟩
    · rw [if_neg h]
      obtain ⟨v, e1, e2⟩ := great_l1 x0 x1 x2 x3 x4 x5 f d al ha i hi' (by omega) (100 * e + 50) (fun k hk => ih k (i + 1) (by omega) hk) al[i].length k 0 (by omega) (by omega)
      refine ⟨v, e1, fun h' t ht => ?_⟩
      rw [List.drop_eq_getElem_cons hi'] at ht
      rcases List.mem_cons.1 ht with rfl | ht
      · exact ⟨by omega, by simpa using (e2 h').1⟩
      · exact (e2 h').2 t ht
end
/-- No more than the statements go through. -/
structure Small (f d : List Int) (al : List (List (List S80))) (p : List Int) : Prop where
  f : f.length ≤ 20
  d : d.length ≤ 1000
  a : al.length ≤ 10
  t : ∀ t ∈ al, Few t
  p : p.length ≤ 1000
theorem great_f (x0 x1 x2 x3 x4 x5 : Int) (f d : List Int) (al : List (List (List S80))) (p : List Int) (k : Nat) (hk : 2000000 < k) :
    ∃ b, quarrellaw20_great.f k x0 x1 x2 x3 x4 x5 f d al p = some b ∧ (b = false → Small f d al p) := by
  obtain ⟨k', e⟩ : ∃ m, k = m + 1 := ⟨k - 1, by omega⟩
  unfold quarrellaw20_great.f quarrellaw16_Great.f
  by_cases h1 : (p.length : Int) > 1000
  · exact ⟨true, by rw [if_pos h1], fun h => by cases h⟩
  rw [if_neg h1]
  by_cases h2 : (d.length : Int) > 1000
  · exact ⟨true, by rw [if_pos h2], fun h => by cases h⟩
  rw [if_neg h2]
  by_cases h3 : (f.length : Int) > 20
  · rw [if_pos h3, e, quarrellaw16_Great.j0, if_pos rfl, Option.bind_some]
    exact ⟨true, rfl, fun h => by cases h⟩
  rw [if_neg h3, if_neg (by simp), e, quarrellaw16_Great.j0]
  by_cases h4 : (al.length : Int) > 10
  · rw [if_pos (decide_eq_true h4), Option.bind_some]
    exact ⟨true, rfl, fun h => by cases h⟩
  rw [if_neg (by simp; omega)]
  obtain ⟨v, e1, e2⟩ := great_l0 0 0 0 0 0 0 f [] al (by omega) al.length k' 0 (by omega) (by omega)
  rw [show ((0 : Nat) : Int) = 0 from rfl] at e1
  rw [e1, Option.bind_some]
  refine ⟨decide (v > 0), rfl, fun h => ⟨by omega, by omega, by omega, ?_, by omega⟩⟩
  simpa using e2 (by have := of_decide_eq_false h; omega)
section
variable (x0 x1 x2 x3 x4 x5 : Int) (f d : List Int) (al : List (List (List S80))) (p : List Int)
end
end Go.Proofs.Ythfkgnkojhocbaa.S
end
section
namespace Go.Proofs.Ythfkgnkojhocbaa.S
open Go Go.RowKit Go.Proofs.YthfkgnkojhocbaaW.PrintWords
set_option linter.unusedVariables false
set_option linter.unusedSimpArgs false
theorem u8_rng {x : Int} (h : (Lit.int .u8 x).wf = true) : 0 ≤ x ∧ x ≤ 255 := by
  simp [Lit.wf, IntKind.min, IntKind.max, IntKind.signed, IntKind.bits] at h
  omega
theorem u8_isB {l : List Int} (h : ∀ x ∈ l, (Lit.int .u8 x).wf = true) : isB l := fun x hx => u8_rng (h x hx)
theorem isB_bytesB {l : List Int} (h : isB l) : bytesB l = true := by
  unfold bytesB
  rw [List.all_eq_true]
  exact fun x hx => decide_eq_true (h x hx)
theorem getS_f (l : List Int) (hb : isB l) (hm : l.length ≤ 1000000) (k : Nat) : script_Get.f k l = some (flatG (getF l)) := by
  unfold script_Get.f
  rw [if_pos ⟨hm, isB_bytesB hb⟩]
theorem getS_t (l : List Int) (hb : isB l) (hm : l.length ≤ 1000000) (k : Nat) (s : Rd) (at_ e : Int) (h : getF l = (s, at_, e)) :
    script_Get.f k l = some (s.c.f0, s.c.f1, s.c.f2, s.c.f3, s.c.f4, s.c.f5, s.f, s.d, s.a, s.p, at_, e) := by
  rw [getS_f l hb hm k, h]
  rfl
set_option maxRecDepth 100000 in
theorem alive_get : getF [1, 1, 0, 9, 5, 1, 2, 7, 0, 0] = (⟨10, ⟨1, 1, 9, 5, 1, 2⟩, [7], [], [[]], []⟩, -1, 0) := by kernel_rfl
theorem alive_f (k : Nat) (hk : 100 < k) : quarrellaw20_alive.f k = some true := by
  unfold quarrellaw20_alive.f
  rw [getS_f _ (by intro x hx; simp at hx; omega) (by simp) k, alive_get, Option.bind_some]
  have hF : flatG (⟨10, ⟨1, 1, 9, 5, 1, 2⟩, [7], [], [[]], []⟩, -1, 0) = (1, 1, 9, 5, 1, 2, [7], [], [[]], [], -1, 0) := rfl
  rw [hF]
  refine (if_pos rfl).trans ((if_pos rfl).trans ((if_pos rfl).trans ?_))
  rw [vals_f [7] (by simp) k (by simp; omega), Option.bind_some, if_pos rfl]
  refine (if_pos rfl).trans ?_
  show some (wrap64 (((0 : Nat) : Int) + ((0 : Nat) : Int)) == 0) = some true
  simp [wrap64]
theorem isB_app {a b : List Int} (h : isB a) (k : isB b) : isB (a ++ b) := fun x hx => by
  rcases List.mem_append.1 hx with hx | hx
  · exact h x hx
  · exact k x hx
theorem isB_mod (l : List Int) : isB (l.map (· % 256)) := fun x hx => by
  obtain ⟨y, _, rfl⟩ := List.mem_map.1 hx
  show 0 ≤ y % 256 ∧ y % 256 ≤ 255
  omega
theorem isB_one {x : Int} {l : List Int} (h : isB l) : isB (x % 256 :: l) := fun y hy => by
  rcases List.mem_cons.1 hy with rfl | hy
  · omega
  · exact h y hy
theorem isB_nil : isB [] := fun x hx => by cases hx
theorem isB_opB (o : S80) : isB (opB o) := isB_one (isB_one (isB_one isB_nil))
theorem isB_ops : ∀ os : List S80, isB (os.flatMap opB)
  | [] => isB_nil
  | o :: os => by rw [List.flatMap_cons]; exact isB_app (isB_opB o) (isB_ops os)
theorem isB_ts : ∀ t : List (List S80), isB (t.flatMap encT)
  | [] => isB_nil
  | o :: t => by rw [List.flatMap_cons]; exact isB_app (isB_one (isB_ops o)) (isB_ts t)
theorem isB_al : ∀ t : List (List (List S80)), isB (t.flatMap encA)
  | [] => isB_nil
  | o :: t => by rw [List.flatMap_cons]; exact isB_app (isB_one (isB_ts o)) (isB_al t)
theorem isB_put (c : S25) (f : List Int) {d : List Int} (hd : isB d) (a : List (List (List S80))) (p : List Int) : isB (putF c f d a p) :=
  isB_app (isB_one (isB_one (isB_one (isB_one (isB_one (isB_one (isB_one isB_nil))))))) (isB_app (isB_mod f) (isB_app (isB_al a) (isB_one (isB_app hd (isB_mod p)))))
theorem ops_len (os : List S80) (h : os.length ≤ 20) : (os.flatMap opB).length ≤ 60 := by rw [opsB_len]; omega
theorem encT_len : ∀ t : List (List S80), (∀ o ∈ t, o.length ≤ 20) → (t.flatMap encT).length ≤ 61 * t.length
  | [], _ => by simp
  | o :: t, h => by
    rw [List.flatMap_cons, List.length_append, List.length_cons]
    have := encT_len t (fun x hx => h x (by simp [hx]))
    have h1 := ops_len o (h o (by simp))
    have h2 : (encT o).length = 1 + (o.flatMap opB).length := by unfold encT; rw [List.length_cons]; omega
    omega
theorem encA_len : ∀ al : List (List (List S80)), (∀ t ∈ al, Few t) → (al.flatMap encA).length ≤ 1300 * al.length
  | [], _ => by simp
  | t :: al, h => by
    rw [List.flatMap_cons, List.length_append, List.length_cons]
    have := encA_len al (fun x hx => h x (by simp [hx]))
    have ht := h t (by simp)
    have h1 := encT_len t ht.2
    have h2 := ht.1
    have h3 : (encA t).length = 1 + (t.flatMap encT).length := by unfold encA; rw [List.length_cons]; omega
    omega
theorem put_len (c : S25) (f d : List Int) (a : List (List (List S80))) (p : List Int) (h : f.length ≤ 20) (h1 : d.length ≤ 3000) (h2 : a.length ≤ 10) (h3 : ∀ t ∈ a, Few t) (h4 : p.length ≤ 3000) :
    8 ≤ (putF c f d a p).length ∧ (putF c f d a p).length ≤ 100000 := by
  have := encA_len a h3
  unfold putF
  simp only [List.length_append, List.length_map, List.length_cons, head7, List.length_nil]
  omega
end Go.Proofs.Ythfkgnkojhocbaa.S
end
section
namespace Go.Proofs.Ythfkgnkojhocbaa.S
open Go.RowKit Go.Proofs.YthfkgnkojhocbaaW.PrintWords Go.Proofs.YthfkgnkojhocbaaW.PrintLast Go.Proofs.YthfkgnkojhocbaaW.PrintMore
attribute [local go_sem] max2_int min2_int max_two min_two max_three min_three max_four min_four
set_option linter.unusedVariables false
set_option linter.unusedSimpArgs false
mutual
def quarrelref20_Put.l0 : Nat → List Int → Int → Int → Int → Int → Int → Int → Int → List Int → List Int → List (List (List (S80))) → List Int → Option (List Int)
  | 0, _, _, _, _, _, _, _, _, _, _, _, _ => none
  | k + 1, x4, x5, x302000, x302001, x302002, x302003, x302004, x302005, x302006, x302007, x302008, x302009 => if x5 < (x302006.length : Int) then (if 0 ≤ x5 then ((quarrelref20_low.f (rd x302006 x5)).bind fun t307 => (if x4.length < 140737488355328 then (quarrelref20_Put.l0 k (x4 ++ [t307]) (wrap64 (x5 + 1)) x302000 x302001 x302002 x302003 x302004 x302005 x302006 x302007 x302008 x302009) else (none))) else (none)) else (quarrelref20_Put.l1 k x4 0 x302000 x302001 x302002 x302003 x302004 x302005 x302006 x302007 x302008 x302009)
def quarrelref20_Put.l1 : Nat → List Int → Int → Int → Int → Int → Int → Int → Int → List Int → List Int → List (List (List (S80))) → List Int → Option (List Int)
  | 0, _, _, _, _, _, _, _, _, _, _, _, _ => none
  | k + 1, x4, x6, x302000, x302001, x302002, x302003, x302004, x302005, x302006, x302007, x302008, x302009 => if x6 < (x302008.length : Int) then (if 0 ≤ x6 then (if x4.length < 140737488355328 then (quarrelref20_Put.l2 k (x4 ++ [(((rd_L7 x302008 x6).length : Int)) % 256]) x6 0 x302000 x302001 x302002 x302003 x302004 x302005 x302006 x302007 x302008 x302009) else (none)) else (none)) else (if x4.length < 140737488355328 then (quarrelref20_Put.l4 k (x4 ++ [((x302007.length : Int)) % 256]) 0 x302000 x302001 x302002 x302003 x302004 x302005 x302006 x302007 x302008 x302009) else (none))
def quarrelref20_Put.l2 : Nat → List Int → Int → Int → Int → Int → Int → Int → Int → Int → List Int → List Int → List (List (List (S80))) → List Int → Option (List Int)
  | 0, _, _, _, _, _, _, _, _, _, _, _, _, _ => none
  | k + 1, x4, x6, x7, x302000, x302001, x302002, x302003, x302004, x302005, x302006, x302007, x302008, x302009 => if 0 ≤ x6 then (if x6 < (x302008.length : Int) then (if x7 < ((rd_L7 x302008 x6).length : Int) then (if 0 ≤ x7 then (if x4.length < 140737488355328 then (quarrelref20_Put.l3 k (x4 ++ [(((rd_L6 (rd_L7 x302008 x6) x7).length : Int)) % 256]) x6 x7 (rd_L6 (rd_L7 x302008 x6) x7) 0 x302000 x302001 x302002 x302003 x302004 x302005 x302006 x302007 x302008 x302009) else (none)) else (none)) else (quarrelref20_Put.l1 k x4 (wrap64 (x6 + 1)) x302000 x302001 x302002 x302003 x302004 x302005 x302006 x302007 x302008 x302009)) else (none)) else (none)
def quarrelref20_Put.l3 : Nat → List Int → Int → Int → List (S80) → Int → Int → Int → Int → Int → Int → Int → List Int → List Int → List (List (List (S80))) → List Int → Option (List Int)
  | 0, _, _, _, _, _, _, _, _, _, _, _, _, _, _, _ => none
  | k + 1, x4, x6, x7, x8, x9, x302000, x302001, x302002, x302003, x302004, x302005, x302006, x302007, x302008, x302009 => if x9 < (x8.length : Int) then (if 0 ≤ x9 then ((quarrelref20_low.f ((rd_T80 x8 x9).f2)).bind fun t324 => ((some (([((rd_T80 x8 x9).f0) % 256, ((rd_T80 x8 x9).f1) % 256, t324] : List Int) : List Int)).bind fun y325 => (if x4.length + y325.length < 140737488355328 then (quarrelref20_Put.l3 k (x4 ++ y325) x6 x7 x8 (wrap64 (x9 + 1)) x302000 x302001 x302002 x302003 x302004 x302005 x302006 x302007 x302008 x302009) else (none)))) else (none)) else (quarrelref20_Put.l2 k x4 x6 (wrap64 (x7 + 1)) x302000 x302001 x302002 x302003 x302004 x302005 x302006 x302007 x302008 x302009)
def quarrelref20_Put.l4 : Nat → List Int → Int → Int → Int → Int → Int → Int → Int → List Int → List Int → List (List (List (S80))) → List Int → Option (List Int)
  | 0, _, _, _, _, _, _, _, _, _, _, _, _ => none
  | k + 1, x4, x10, x302000, x302001, x302002, x302003, x302004, x302005, x302006, x302007, x302008, x302009 => if x10 < (x302007.length : Int) then (if 0 ≤ x10 then (if x4.length < 140737488355328 then (quarrelref20_Put.l4 k (x4 ++ [rd x302007 x10]) (wrap64 (x10 + 1)) x302000 x302001 x302002 x302003 x302004 x302005 x302006 x302007 x302008 x302009) else (none)) else (none)) else (quarrelref20_Put.l5 k x4 0 x302000 x302001 x302002 x302003 x302004 x302005 x302006 x302007 x302008 x302009)
def quarrelref20_Put.l5 : Nat → List Int → Int → Int → Int → Int → Int → Int → Int → List Int → List Int → List (List (List (S80))) → List Int → Option (List Int)
  | 0, _, _, _, _, _, _, _, _, _, _, _, _ => none
  | k + 1, x4, x11, x302000, x302001, x302002, x302003, x302004, x302005, x302006, x302007, x302008, x302009 => if x11 < (x302009.length : Int) then (if 0 ≤ x11 then (if x4.length < 140737488355328 then (quarrelref20_Put.l5 k (x4 ++ [(rd x302009 x11) % 256]) (wrap64 (x11 + 1)) x302000 x302001 x302002 x302003 x302004 x302005 x302006 x302007 x302008 x302009) else (none)) else (none)) else (some x4)
end
def quarrelref20_Put.f (k : Nat) (a0_0 : Int) (a0_1 : Int) (a0_2 : Int) (a0_3 : Int) (a0_4 : Int) (a0_5 : Int) (l0_6 : List Int) (l0_7 : List Int) (l0_8 : List (List (List (S80)))) (l0_9 : List Int) : Option (List Int) := quarrelref20_Put.l0 k (([(a0_0) % 256, (a0_1) % 256, (wrap64 (Int.tdiv a0_2 256)) % 256, (Int.tmod a0_2 256) % 256, (a0_3) % 256, (a0_4) % 256, (a0_5) % 256] : List Int)) 0 a0_0 a0_1 a0_2 a0_3 a0_4 a0_5 l0_6 l0_7 l0_8 l0_9
theorem quarrelref20_Put.mono_l : ∀ k, (∀ y0 y1 y2 y3 y4 y5 y6 y7 y8 y9 y10 y11, LeO (quarrelref20_Put.l0 k y0 y1 y2 y3 y4 y5 y6 y7 y8 y9 y10 y11) (quarrelref20_Put.l0 (k + 1) y0 y1 y2 y3 y4 y5 y6 y7 y8 y9 y10 y11)) ∧ (∀ y0 y1 y2 y3 y4 y5 y6 y7 y8 y9 y10 y11, LeO (quarrelref20_Put.l1 k y0 y1 y2 y3 y4 y5 y6 y7 y8 y9 y10 y11) (quarrelref20_Put.l1 (k + 1) y0 y1 y2 y3 y4 y5 y6 y7 y8 y9 y10 y11)) ∧ (∀ y0 y1 y2 y3 y4 y5 y6 y7 y8 y9 y10 y11 y12, LeO (quarrelref20_Put.l2 k y0 y1 y2 y3 y4 y5 y6 y7 y8 y9 y10 y11 y12) (quarrelref20_Put.l2 (k + 1) y0 y1 y2 y3 y4 y5 y6 y7 y8 y9 y10 y11 y12)) ∧ (∀ y0 y1 y2 y3 y4 y5 y6 y7 y8 y9 y10 y11 y12 y13 y14, LeO (quarrelref20_Put.l3 k y0 y1 y2 y3 y4 y5 y6 y7 y8 y9 y10 y11 y12 y13 y14) (quarrelref20_Put.l3 (k + 1) y0 y1 y2 y3 y4 y5 y6 y7 y8 y9 y10 y11 y12 y13 y14)) ∧ (∀ y0 y1 y2 y3 y4 y5 y6 y7 y8 y9 y10 y11, LeO (quarrelref20_Put.l4 k y0 y1 y2 y3 y4 y5 y6 y7 y8 y9 y10 y11) (quarrelref20_Put.l4 (k + 1) y0 y1 y2 y3 y4 y5 y6 y7 y8 y9 y10 y11)) ∧ (∀ y0 y1 y2 y3 y4 y5 y6 y7 y8 y9 y10 y11, LeO (quarrelref20_Put.l5 k y0 y1 y2 y3 y4 y5 y6 y7 y8 y9 y10 y11) (quarrelref20_Put.l5 (k + 1) y0 y1 y2 y3 y4 y5 y6 y7 y8 y9 y10 y11))
  | 0 => ⟨fun _ _ _ _ _ _ _ _ _ _ _ _ r h => by simp [quarrelref20_Put.l0] at h, fun _ _ _ _ _ _ _ _ _ _ _ _ r h => by simp [quarrelref20_Put.l1] at h, fun _ _ _ _ _ _ _ _ _ _ _ _ _ r h => by simp [quarrelref20_Put.l2] at h, fun _ _ _ _ _ _ _ _ _ _ _ _ _ _ _ r h => by simp [quarrelref20_Put.l3] at h, fun _ _ _ _ _ _ _ _ _ _ _ _ r h => by simp [quarrelref20_Put.l4] at h, fun _ _ _ _ _ _ _ _ _ _ _ _ r h => by simp [quarrelref20_Put.l5] at h⟩
  | k + 1 => by
    obtain ⟨ih0, ih1, ih2, ih3, ih4, ih5⟩ := quarrelref20_Put.mono_l k
    refine ⟨?_, ?_, ?_, ?_, ?_, ?_⟩
    · intro y0 y1 y2 y3 y4 y5 y6 y7 y8 y9 y10 y11
      unfold quarrelref20_Put.l0
      repeat' first
      | (with_reducible exact ih0 _ _ _ _ _ _ _ _ _ _ _ _)
      | (with_reducible exact ih1 _ _ _ _ _ _ _ _ _ _ _ _)
      | (with_reducible exact ih2 _ _ _ _ _ _ _ _ _ _ _ _ _)
      | (with_reducible exact ih3 _ _ _ _ _ _ _ _ _ _ _ _ _ _ _)
      | (with_reducible exact ih4 _ _ _ _ _ _ _ _ _ _ _ _)
      | (with_reducible exact ih5 _ _ _ _ _ _ _ _ _ _ _ _)
      | (with_reducible exact LeO.refl _)
      | (with_reducible exact LeO.none _)
      | (with_reducible refine LeO.ite ?_ ?_)
      | (with_reducible refine LeO.bind ?_ (fun _ => ?_))
      | exact ih0 _ _ _ _ _ _ _ _ _ _ _ _
      | exact ih1 _ _ _ _ _ _ _ _ _ _ _ _
      | exact ih2 _ _ _ _ _ _ _ _ _ _ _ _ _
      | exact ih3 _ _ _ _ _ _ _ _ _ _ _ _ _ _ _
      | exact ih4 _ _ _ _ _ _ _ _ _ _ _ _
      | exact ih5 _ _ _ _ _ _ _ _ _ _ _ _
      | exact LeO.none _
      | refine LeO.ite ?_ ?_
      | refine LeO.bind ?_ (fun _ => ?_)
    · intro y0 y1 y2 y3 y4 y5 y6 y7 y8 y9 y10 y11
      unfold quarrelref20_Put.l1
      repeat' first
      | (with_reducible exact ih0 _ _ _ _ _ _ _ _ _ _ _ _)
      | (with_reducible exact ih1 _ _ _ _ _ _ _ _ _ _ _ _)
      | (with_reducible exact ih2 _ _ _ _ _ _ _ _ _ _ _ _ _)
      | (with_reducible exact ih3 _ _ _ _ _ _ _ _ _ _ _ _ _ _ _)
      | (with_reducible exact ih4 _ _ _ _ _ _ _ _ _ _ _ _)
      | (with_reducible exact ih5 _ _ _ _ _ _ _ _ _ _ _ _)
      | (with_reducible exact LeO.refl _)
      | (with_reducible exact LeO.none _)
      | (with_reducible refine LeO.ite ?_ ?_)
      | (with_reducible refine LeO.bind ?_ (fun _ => ?_))
      | exact ih0 _ _ _ _ _ _ _ _ _ _ _ _
      | exact ih1 _ _ _ _ _ _ _ _ _ _ _ _
      | exact ih2 _ _ _ _ _ _ _ _ _ _ _ _ _
      | exact ih3 _ _ _ _ _ _ _ _ _ _ _ _ _ _ _
      | exact ih4 _ _ _ _ _ _ _ _ _ _ _ _
      | exact ih5 _ _ _ _ _ _ _ _ _ _ _ _
      | exact LeO.none _
      | refine LeO.ite ?_ ?_
      | refine LeO.bind ?_ (fun _ => ?_)
    · intro y0 y1 y2 y3 y4 y5 y6 y7 y8 y9 y10 y11 y12
      unfold quarrelref20_Put.l2
      repeat' first
      | (with_reducible exact ih0 _ _ _ _ _ _ _ _ _ _ _ _)
      | (with_reducible exact ih1 _ _ _ _ _ _ _ _ _ _ _ _)
      | (with_reducible exact ih2 _ _ _ _ _ _ _ _ _ _ _ _ _)
      | (with_reducible exact ih3 _ _ _ _ _ _ _ _ _ _ _ _ _ _ _)
      | (with_reducible exact ih4 _ _ _ _ _ _ _ _ _ _ _ _)
      | (with_reducible exact ih5 _ _ _ _ _ _ _ _ _ _ _ _)
      | (with_reducible exact LeO.refl _)
      | (with_reducible exact LeO.none _)
      | (with_reducible refine LeO.ite ?_ ?_)
      | (with_reducible refine LeO.bind ?_ (fun _ => ?_))
      | exact ih0 _ _ _ _ _ _ _ _ _ _ _ _
      | exact ih1 _ _ _ _ _ _ _ _ _ _ _ _
      | exact ih2 _ _ _ _ _ _ _ _ _ _ _ _ _
      | exact ih3 _ _ _ _ _ _ _ _ _ _ _ _ _ _ _
      | exact ih4 _ _ _ _ _ _ _ _ _ _ _ _
      | exact ih5 _ _ _ _ _ _ _ _ _ _ _ _
      | exact LeO.none _
      | refine LeO.ite ?_ ?_
      | refine LeO.bind ?_ (fun _ => ?_)
    · intro y0 y1 y2 y3 y4 y5 y6 y7 y8 y9 y10 y11 y12 y13 y14
      unfold quarrelref20_Put.l3
      repeat' first
      | (with_reducible exact ih0 _ _ _ _ _ _ _ _ _ _ _ _)
      | (with_reducible exact ih1 _ _ _ _ _ _ _ _ _ _ _ _)
      | (with_reducible exact ih2 _ _ _ _ _ _ _ _ _ _ _ _ _)
      | (with_reducible exact ih3 _ _ _ _ _ _ _ _ _ _ _ _ _ _ _)
      | (with_reducible exact ih4 _ _ _ _ _ _ _ _ _ _ _ _)
      | (with_reducible exact ih5 _ _ _ _ _ _ _ _ _ _ _ _)
      | (with_reducible exact LeO.refl _)
      | (with_reducible exact LeO.none _)
      | (with_reducible refine LeO.ite ?_ ?_)
      | (with_reducible refine LeO.bind ?_ (fun _ => ?_))
      | exact ih0 _ _ _ _ _ _ _ _ _ _ _ _
      | exact ih1 _ _ _ _ _ _ _ _ _ _ _ _
      | exact ih2 _ _ _ _ _ _ _ _ _ _ _ _ _
      | exact ih3 _ _ _ _ _ _ _ _ _ _ _ _ _ _ _
      | exact ih4 _ _ _ _ _ _ _ _ _ _ _ _
      | exact ih5 _ _ _ _ _ _ _ _ _ _ _ _
      | exact LeO.none _
      | refine LeO.ite ?_ ?_
      | refine LeO.bind ?_ (fun _ => ?_)
    · intro y0 y1 y2 y3 y4 y5 y6 y7 y8 y9 y10 y11
      unfold quarrelref20_Put.l4
      repeat' first
      | (with_reducible exact ih0 _ _ _ _ _ _ _ _ _ _ _ _)
      | (with_reducible exact ih1 _ _ _ _ _ _ _ _ _ _ _ _)
      | (with_reducible exact ih2 _ _ _ _ _ _ _ _ _ _ _ _ _)
      | (with_reducible exact ih3 _ _ _ _ _ _ _ _ _ _ _ _ _ _ _)
      | (with_reducible exact ih4 _ _ _ _ _ _ _ _ _ _ _ _)
      | (with_reducible exact ih5 _ _ _ _ _ _ _ _ _ _ _ _)
      | (with_reducible exact LeO.refl _)
      | (with_reducible exact LeO.none _)
      | (with_reducible refine LeO.ite ?_ ?_)
      | (with_reducible refine LeO.bind ?_ (fun _ => ?_))
      | exact ih0 _ _ _ _ _ _ _ _ _ _ _ _
      | exact ih1 _ _ _ _ _ _ _ _ _ _ _ _
      | exact ih2 _ _ _ _ _ _ _ _ _ _ _ _ _
      | exact ih3 _ _ _ _ _ _ _ _ _ _ _ _ _ _ _
      | exact ih4 _ _ _ _ _ _ _ _ _ _ _ _
      | exact ih5 _ _ _ _ _ _ _ _ _ _ _ _
      | exact LeO.none _
      | refine LeO.ite ?_ ?_
      | refine LeO.bind ?_ (fun _ => ?_)
    · intro y0 y1 y2 y3 y4 y5 y6 y7 y8 y9 y10 y11
      unfold quarrelref20_Put.l5
      repeat' first
      | (with_reducible exact ih0 _ _ _ _ _ _ _ _ _ _ _ _)
      | (with_reducible exact ih1 _ _ _ _ _ _ _ _ _ _ _ _)
      | (with_reducible exact ih2 _ _ _ _ _ _ _ _ _ _ _ _ _)
      | (with_reducible exact ih3 _ _ _ _ _ _ _ _ _ _ _ _ _ _ _)
      | (with_reducible exact ih4 _ _ _ _ _ _ _ _ _ _ _ _)
      | (with_reducible exact ih5 _ _ _ _ _ _ _ _ _ _ _ _)
      | (with_reducible exact LeO.refl _)
      | (with_reducible exact LeO.none _)
      | (with_reducible refine LeO.ite ?_ ?_)
      | (with_reducible refine LeO.bind ?_ (fun _ => ?_))
      | exact ih0 _ _ _ _ _ _ _ _ _ _ _ _
      | exact ih1 _ _ _ _ _ _ _ _ _ _ _ _
      | exact ih2 _ _ _ _ _ _ _ _ _ _ _ _ _
      | exact ih3 _ _ _ _ _ _ _ _ _ _ _ _ _ _ _
      | exact ih4 _ _ _ _ _ _ _ _ _ _ _ _
      | exact ih5 _ _ _ _ _ _ _ _ _ _ _ _
      | exact LeO.none _
      | refine LeO.ite ?_ ?_
      | refine LeO.bind ?_ (fun _ => ?_)
theorem quarrelref20_Put.mono : ∀ a0 a1 a2 a3 a4 a5 a6 a7 a8 a9 k, LeO (quarrelref20_Put.f k a0 a1 a2 a3 a4 a5 a6 a7 a8 a9) (quarrelref20_Put.f (k + 1) a0 a1 a2 a3 a4 a5 a6 a7 a8 a9) := by
  intro a0 a1 a2 a3 a4 a5 a6 a7 a8 a9 k
  obtain ⟨ih0, ih1, ih2, ih3, ih4, ih5⟩ := quarrelref20_Put.mono_l k
  unfold quarrelref20_Put.f
  repeat' first
      | (with_reducible exact ih0 _ _ _ _ _ _ _ _ _ _ _ _)
      | (with_reducible exact ih1 _ _ _ _ _ _ _ _ _ _ _ _)
      | (with_reducible exact ih2 _ _ _ _ _ _ _ _ _ _ _ _ _)
      | (with_reducible exact ih3 _ _ _ _ _ _ _ _ _ _ _ _ _ _ _)
      | (with_reducible exact ih4 _ _ _ _ _ _ _ _ _ _ _ _)
      | (with_reducible exact ih5 _ _ _ _ _ _ _ _ _ _ _ _)
      | (with_reducible exact LeO.refl _)
      | (with_reducible exact LeO.none _)
      | (with_reducible refine LeO.ite ?_ ?_)
      | (with_reducible refine LeO.bind ?_ (fun _ => ?_))
      | exact ih0 _ _ _ _ _ _ _ _ _ _ _ _
      | exact ih1 _ _ _ _ _ _ _ _ _ _ _ _
      | exact ih2 _ _ _ _ _ _ _ _ _ _ _ _ _
      | exact ih3 _ _ _ _ _ _ _ _ _ _ _ _ _ _ _
      | exact ih4 _ _ _ _ _ _ _ _ _ _ _ _
      | exact ih5 _ _ _ _ _ _ _ _ _ _ _ _
      | exact LeO.none _
      | refine LeO.ite ?_ ?_
      | refine LeO.bind ?_ (fun _ => ?_)
end Go.Proofs.Ythfkgnkojhocbaa.S
end
