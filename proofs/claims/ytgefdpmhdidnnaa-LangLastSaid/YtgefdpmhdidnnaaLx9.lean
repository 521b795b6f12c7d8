/- Walks: what each Go function of this seat that stands here comes to; conditions stand in each contract. Written by a program of this session. -/
import Derived.Test.YtgefdpmhdidnnaaLx0
import Derived.Test.YtgefdpmhdidnnaaLx5
import Derived.Test.YtgefdpmhdidnnaaLx6
namespace Go.Proofs.Ytgefdpmhdidnnaa.L
open Go.RowKit Go.Proofs.YtgefdpmhdidnnaaW.PrintWords Go.Proofs.YtgefdpmhdidnnaaW.PrintLast Go.Proofs.YtgefdpmhdidnnaaW.PrintMore
attribute [local go_sem] max2_int min2_int max_two min_two max_three min_three max_four min_four   -- for this text's walks alone
set_option linter.unusedVariables false
set_option linter.unusedSimpArgs false

/-! ### quarrellaw11_LangLast: function 5 -/
mutual
def quarrellaw11_LangLast.j0 : Nat → List (S33) → List Int → Bool → Option (Bool)
  | 0, _, _, _ => none
  | k + 1, x0, x1, x30 => if x30 = true then (some true) else ((lang_Alone.f x0 x1).bind fun bt186 => (if bt186.2 = 0 then (quarrellaw11_LangLast.j1 k x0 x1 bt186.1 ((bt186.1.length : Int) != (x1.length : Int))) else (quarrellaw11_LangLast.j1 k x0 x1 bt186.1 true)))
def quarrellaw11_LangLast.j1 : Nat → List (S33) → List Int → List Int → Bool → Option (Bool)
  | 0, _, _, _, _ => none
  | k + 1, x0, x1, x5, x45 => if x45 = true then (some false) else (quarrellaw11_LangLast.l0 k x0 x1 x5 1)
def quarrellaw11_LangLast.l0 : Nat → List (S33) → List Int → List Int → Int → Option (Bool)
  | 0, _, _, _, _ => none
  | k + 1, x0, x1, x5, x7 => if x7 ≤ (x0.length : Int) then (if 0 ≤ x7 then ((lang_Alone.f (x0.take (x7 : Int).toNat) x1).bind fun bt194 => (if bt194.2 = 0 then (quarrellaw11_LangLast.j3 k x0 x1 x5 x7 bt194.1 ((bt194.1.length : Int) != (x1.length : Int))) else (quarrellaw11_LangLast.j3 k x0 x1 x5 x7 bt194.1 true))) else (none)) else (some true)
def quarrellaw11_LangLast.j3 : Nat → List (S33) → List Int → List Int → Int → List Int → Bool → Option (Bool)
  | 0, _, _, _, _, _, _ => none
  | k + 1, x0, x1, x5, x7, x8, x68 => if x68 = true then (some false) else (if x7 = (x0.length : Int) then ((quarrelref01_Vals.f k x8 x5).bind fun t198 => (quarrellaw11_LangLast.j4 k x0 x1 x5 x7 x8 (!t198))) else (quarrellaw11_LangLast.j4 k x0 x1 x5 x7 x8 false))
def quarrellaw11_LangLast.j4 : Nat → List (S33) → List Int → List Int → Int → List Int → Bool → Option (Bool)
  | 0, _, _, _, _, _, _ => none
  | k + 1, x0, x1, x5, x7, x8, x78 => if x78 = true then (some false) else (if 0 ≤ (wrap64 (x7 - 1)) then (if (wrap64 (x7 - 1)) < (x0.length : Int) then (if ((rd_T33 x0 (wrap64 (x7 - 1))).f0) = 2 then (quarrellaw11_LangLast.j5 k x0 x1 x5 x7 x8 ((rd_T33 x0 (wrap64 (x7 - 1))).f0) ((rd_T33 x0 (wrap64 (x7 - 1))).f1) ((rd_T33 x0 (wrap64 (x7 - 1))).f2)) else (if x7 > 1 then (if (wrap64 (x7 - 1)) ≤ (x0.length : Int) then ((lang_Alone.f (x0.take ((wrap64 (x7 - 1)) : Int).toNat) x1).bind fun bt205 => ((quarrelref01_Vals.f k x8 bt205.1).bind fun t209 => (if t209 = true then (quarrellaw11_LangLast.j5 k x0 x1 x5 x7 x8 ((rd_T33 x0 (wrap64 (x7 - 1))).f0) ((rd_T33 x0 (wrap64 (x7 - 1))).f1) ((rd_T33 x0 (wrap64 (x7 - 1))).f2)) else (some false)))) else (none)) else ((quarrelref01_Vals.f k x8 x1).bind fun t210 => (if t210 = true then (quarrellaw11_LangLast.j5 k x0 x1 x5 x7 x8 ((rd_T33 x0 (wrap64 (x7 - 1))).f0) ((rd_T33 x0 (wrap64 (x7 - 1))).f1) ((rd_T33 x0 (wrap64 (x7 - 1))).f2)) else (some false))))) else (none)) else (none))
def quarrellaw11_LangLast.j5 : Nat → List (S33) → List Int → List Int → Int → List Int → Int → Int → Int → Option (Bool)
  | 0, _, _, _, _, _, _, _, _ => none
  | k + 1, x0, x1, x5, x7, x8, x201000, x201001, x201002 => if x201000 = 2 then (quarrellaw11_LangLast.j6 k x0 x1 x5 x7 x8 (decide (x7 < 7)) x201000 x201001 x201002) else (quarrellaw11_LangLast.j6 k x0 x1 x5 x7 x8 false x201000 x201001 x201002)
def quarrellaw11_LangLast.j6 : Nat → List (S33) → List Int → List Int → Int → List Int → Bool → Int → Int → Int → Option (Bool)
  | 0, _, _, _, _, _, _, _, _, _ => none
  | k + 1, x0, x1, x5, x7, x8, x109, x201000, x201001, x201002 => if x109 = true then ((some (([] : List (S33)) : List (S33))).bind fun y211 => (if 0 ≤ x7 then (if x7 ≤ (x0.length : Int) then ((some (x0.take (x7 : Int).toNat : List (S33))).bind fun y214 => (if y211.length + y214.length < 5864062014805 then ((some (y211 ++ y214 : List (S33))).bind fun y218 => ((some (([(⟨3, 0, 3⟩ : S33), (⟨1, x201001, 0⟩ : S33)] : List (S33)) : List (S33))).bind fun y221 => (if y218.length + y221.length < 5864062014805 then ((lang_Alone.f (y218 ++ y221) x1).bind fun bt227 => (if bt227.2 = 0 then ((quarrelref01_Vals.f k bt227.1 x8).bind fun t231 => (if t231 = true then (quarrellaw11_LangLast.l0 k x0 x1 x5 (wrap64 (x7 + 1))) else (some false))) else (some false))) else (none)))) else (none))) else (none)) else (none))) else (quarrellaw11_LangLast.l0 k x0 x1 x5 (wrap64 (x7 + 1)))
end
def quarrellaw11_LangLast.f (k : Nat) (l0 : List (S33)) (l1 : List Int) : Option (Bool) := (quarrellaw11_alive.f k).bind fun t184 => (if t184 = true then (if (l1.length : Int) < 1 then (quarrellaw11_LangLast.j0 k l0 l1 true) else (if (l1.length : Int) > 8 then (quarrellaw11_LangLast.j0 k l0 l1 true) else ((quarrelref11_Right.f k l0 (l1.length : Int)).bind fun t185 => (quarrellaw11_LangLast.j0 k l0 l1 (!t185))))) else (some false))
theorem quarrellaw11_LangLast.mono_l : ∀ k, (∀ y0 y1 y2, LeO (quarrellaw11_LangLast.j0 k y0 y1 y2) (quarrellaw11_LangLast.j0 (k + 1) y0 y1 y2)) ∧ (∀ y0 y1 y2 y3, LeO (quarrellaw11_LangLast.j1 k y0 y1 y2 y3) (quarrellaw11_LangLast.j1 (k + 1) y0 y1 y2 y3)) ∧ (∀ y0 y1 y2 y3, LeO (quarrellaw11_LangLast.l0 k y0 y1 y2 y3) (quarrellaw11_LangLast.l0 (k + 1) y0 y1 y2 y3)) ∧ (∀ y0 y1 y2 y3 y4 y5, LeO (quarrellaw11_LangLast.j3 k y0 y1 y2 y3 y4 y5) (quarrellaw11_LangLast.j3 (k + 1) y0 y1 y2 y3 y4 y5)) ∧ (∀ y0 y1 y2 y3 y4 y5, LeO (quarrellaw11_LangLast.j4 k y0 y1 y2 y3 y4 y5) (quarrellaw11_LangLast.j4 (k + 1) y0 y1 y2 y3 y4 y5)) ∧ (∀ y0 y1 y2 y3 y4 y5 y6 y7, LeO (quarrellaw11_LangLast.j5 k y0 y1 y2 y3 y4 y5 y6 y7) (quarrellaw11_LangLast.j5 (k + 1) y0 y1 y2 y3 y4 y5 y6 y7)) ∧ (∀ y0 y1 y2 y3 y4 y5 y6 y7 y8, LeO (quarrellaw11_LangLast.j6 k y0 y1 y2 y3 y4 y5 y6 y7 y8) (quarrellaw11_LangLast.j6 (k + 1) y0 y1 y2 y3 y4 y5 y6 y7 y8))
  | 0 => ⟨fun _ _ _ r h => by simp [quarrellaw11_LangLast.j0] at h, fun _ _ _ _ r h => by simp [quarrellaw11_LangLast.j1] at h, fun _ _ _ _ r h => by simp [quarrellaw11_LangLast.l0] at h, fun _ _ _ _ _ _ r h => by simp [quarrellaw11_LangLast.j3] at h, fun _ _ _ _ _ _ r h => by simp [quarrellaw11_LangLast.j4] at h, fun _ _ _ _ _ _ _ _ r h => by simp [quarrellaw11_LangLast.j5] at h, fun _ _ _ _ _ _ _ _ _ r h => by simp [quarrellaw11_LangLast.j6] at h⟩
  | k + 1 => by
    obtain ⟨ih0, ih1, ih2, ih3, ih4, ih5, ih6⟩ := quarrellaw11_LangLast.mono_l k
    refine ⟨?_, ?_, ?_, ?_, ?_, ?_, ?_⟩
    · intro y0 y1 y2
      unfold quarrellaw11_LangLast.j0
      repeat' first
      | (with_reducible exact ih0 _ _ _)
      | (with_reducible exact ih1 _ _ _ _)
      | (with_reducible exact ih2 _ _ _ _)
      | (with_reducible exact ih3 _ _ _ _ _ _)
      | (with_reducible exact ih4 _ _ _ _ _ _)
      | (with_reducible exact ih5 _ _ _ _ _ _ _ _)
      | (with_reducible exact ih6 _ _ _ _ _ _ _ _ _)
      | (with_reducible exact quarrellaw11_alive.mono _)
      | (with_reducible exact quarrelref01_Vals.mono _ _ _)
      | (with_reducible exact quarrelref11_Right.mono _ _ _)
      | (with_reducible exact LeO.refl _)
      | (with_reducible exact LeO.none _)
      | (with_reducible refine LeO.ite ?_ ?_)
      | (with_reducible refine LeO.bind ?_ (fun _ => ?_))
      | exact ih0 _ _ _
      | exact ih1 _ _ _ _
      | exact ih2 _ _ _ _
      | exact ih3 _ _ _ _ _ _
      | exact ih4 _ _ _ _ _ _
      | exact ih5 _ _ _ _ _ _ _ _
      | exact ih6 _ _ _ _ _ _ _ _ _
      | exact quarrellaw11_alive.mono _
      | exact quarrelref01_Vals.mono _ _ _
      | exact quarrelref11_Right.mono _ _ _
      | exact LeO.none _
      | refine LeO.ite ?_ ?_
      | refine LeO.bind ?_ (fun _ => ?_)
    · intro y0 y1 y2 y3
      unfold quarrellaw11_LangLast.j1
      repeat' first
      | (with_reducible exact ih0 _ _ _)
      | (with_reducible exact ih1 _ _ _ _)
      | (with_reducible exact ih2 _ _ _ _)
      | (with_reducible exact ih3 _ _ _ _ _ _)
      | (with_reducible exact ih4 _ _ _ _ _ _)
      | (with_reducible exact ih5 _ _ _ _ _ _ _ _)
      | (with_reducible exact ih6 _ _ _ _ _ _ _ _ _)
      | (with_reducible exact quarrellaw11_alive.mono _)
      | (with_reducible exact quarrelref01_Vals.mono _ _ _)
      | (with_reducible exact quarrelref11_Right.mono _ _ _)
      | (with_reducible exact LeO.refl _)
      | (with_reducible exact LeO.none _)
      | (with_reducible refine LeO.ite ?_ ?_)
      | (with_reducible refine LeO.bind ?_ (fun _ => ?_))
      | exact ih0 _ _ _
      | exact ih1 _ _ _ _
      | exact ih2 _ _ _ _
      | exact ih3 _ _ _ _ _ _
      | exact ih4 _ _ _ _ _ _
      | exact ih5 _ _ _ _ _ _ _ _
      | exact ih6 _ _ _ _ _ _ _ _ _
      | exact quarrellaw11_alive.mono _
      | exact quarrelref01_Vals.mono _ _ _
      | exact quarrelref11_Right.mono _ _ _
      | exact LeO.none _
      | refine LeO.ite ?_ ?_
      | refine LeO.bind ?_ (fun _ => ?_)
    · intro y0 y1 y2 y3
      unfold quarrellaw11_LangLast.l0
      repeat' first
      | (with_reducible exact ih0 _ _ _)
      | (with_reducible exact ih1 _ _ _ _)
      | (with_reducible exact ih2 _ _ _ _)
      | (with_reducible exact ih3 _ _ _ _ _ _)
      | (with_reducible exact ih4 _ _ _ _ _ _)
      | (with_reducible exact ih5 _ _ _ _ _ _ _ _)
      | (with_reducible exact ih6 _ _ _ _ _ _ _ _ _)
      | (with_reducible exact quarrellaw11_alive.mono _)
      | (with_reducible exact quarrelref01_Vals.mono _ _ _)
      | (with_reducible exact quarrelref11_Right.mono _ _ _)
      | (with_reducible exact LeO.refl _)
      | (with_reducible exact LeO.none _)
      | (with_reducible refine LeO.ite ?_ ?_)
      | (with_reducible refine LeO.bind ?_ (fun _ => ?_))
      | exact ih0 _ _ _
      | exact ih1 _ _ _ _
      | exact ih2 _ _ _ _
      | exact ih3 _ _ _ _ _ _
      | exact ih4 _ _ _ _ _ _
      | exact ih5 _ _ _ _ _ _ _ _
      | exact ih6 _ _ _ _ _ _ _ _ _
      | exact quarrellaw11_alive.mono _
      | exact quarrelref01_Vals.mono _ _ _
      | exact quarrelref11_Right.mono _ _ _
      | exact LeO.none _
      | refine LeO.ite ?_ ?_
      | refine LeO.bind ?_ (fun _ => ?_)
    · intro y0 y1 y2 y3 y4 y5
      unfold quarrellaw11_LangLast.j3
      repeat' first
      | (with_reducible exact ih0 _ _ _)
      | (with_reducible exact ih1 _ _ _ _)
      | (with_reducible exact ih2 _ _ _ _)
      | (with_reducible exact ih3 _ _ _ _ _ _)
      | (with_reducible exact ih4 _ _ _ _ _ _)
      | (with_reducible exact ih5 _ _ _ _ _ _ _ _)
      | (with_reducible exact ih6 _ _ _ _ _ _ _ _ _)
      | (with_reducible exact quarrellaw11_alive.mono _)
      | (with_reducible exact quarrelref01_Vals.mono _ _ _)
      | (with_reducible exact quarrelref11_Right.mono _ _ _)
      | (with_reducible exact LeO.refl _)
      | (with_reducible exact LeO.none _)
      | (with_reducible refine LeO.ite ?_ ?_)
      | (with_reducible refine LeO.bind ?_ (fun _ => ?_))
      | exact ih0 _ _ _
      | exact ih1 _ _ _ _
      | exact ih2 _ _ _ _
      | exact ih3 _ _ _ _ _ _
      | exact ih4 _ _ _ _ _ _
      | exact ih5 _ _ _ _ _ _ _ _
      | exact ih6 _ _ _ _ _ _ _ _ _
      | exact quarrellaw11_alive.mono _
      | exact quarrelref01_Vals.mono _ _ _
      | exact quarrelref11_Right.mono _ _ _
      | exact LeO.none _
      | refine LeO.ite ?_ ?_
      | refine LeO.bind ?_ (fun _ => ?_)
    · intro y0 y1 y2 y3 y4 y5
      unfold quarrellaw11_LangLast.j4
      repeat' first
      | (with_reducible exact ih0 _ _ _)
      | (with_reducible exact ih1 _ _ _ _)
      | (with_reducible exact ih2 _ _ _ _)
      | (with_reducible exact ih3 _ _ _ _ _ _)
      | (with_reducible exact ih4 _ _ _ _ _ _)
      | (with_reducible exact ih5 _ _ _ _ _ _ _ _)
      | (with_reducible exact ih6 _ _ _ _ _ _ _ _ _)
      | (with_reducible exact quarrellaw11_alive.mono _)
      | (with_reducible exact quarrelref01_Vals.mono _ _ _)
      | (with_reducible exact quarrelref11_Right.mono _ _ _)
      | (with_reducible exact LeO.refl _)
      | (with_reducible exact LeO.none _)
      | (with_reducible refine LeO.ite ?_ ?_)
      | (with_reducible refine LeO.bind ?_ (fun _ => ?_))
      | exact ih0 _ _ _
      | exact ih1 _ _ _ _
      | exact ih2 _ _ _ _
      | exact ih3 _ _ _ _ _ _
      | exact ih4 _ _ _ _ _ _
      | exact ih5 _ _ _ _ _ _ _ _
      | exact ih6 _ _ _ _ _ _ _ _ _
      | exact quarrellaw11_alive.mono _
      | exact quarrelref01_Vals.mono _ _ _
      | exact quarrelref11_Right.mono _ _ _
      | exact LeO.none _
      | refine LeO.ite ?_ ?_
      | refine LeO.bind ?_ (fun _ => ?_)
    · intro y0 y1 y2 y3 y4 y5 y6 y7
      unfold quarrellaw11_LangLast.j5
      repeat' first
      | (with_reducible exact ih0 _ _ _)
      | (with_reducible exact ih1 _ _ _ _)
      | (with_reducible exact ih2 _ _ _ _)
      | (with_reducible exact ih3 _ _ _ _ _ _)
      | (with_reducible exact ih4 _ _ _ _ _ _)
      | (with_reducible exact ih5 _ _ _ _ _ _ _ _)
      | (with_reducible exact ih6 _ _ _ _ _ _ _ _ _)
      | (with_reducible exact quarrellaw11_alive.mono _)
      | (with_reducible exact quarrelref01_Vals.mono _ _ _)
      | (with_reducible exact quarrelref11_Right.mono _ _ _)
      | (with_reducible exact LeO.refl _)
      | (with_reducible exact LeO.none _)
      | (with_reducible refine LeO.ite ?_ ?_)
      | (with_reducible refine LeO.bind ?_ (fun _ => ?_))
      | exact ih0 _ _ _
      | exact ih1 _ _ _ _
      | exact ih2 _ _ _ _
      | exact ih3 _ _ _ _ _ _
      | exact ih4 _ _ _ _ _ _
      | exact ih5 _ _ _ _ _ _ _ _
      | exact ih6 _ _ _ _ _ _ _ _ _
      | exact quarrellaw11_alive.mono _
      | exact quarrelref01_Vals.mono _ _ _
      | exact quarrelref11_Right.mono _ _ _
      | exact LeO.none _
      | refine LeO.ite ?_ ?_
      | refine LeO.bind ?_ (fun _ => ?_)
    · intro y0 y1 y2 y3 y4 y5 y6 y7 y8
      unfold quarrellaw11_LangLast.j6
      repeat' first
      | (with_reducible exact ih0 _ _ _)
      | (with_reducible exact ih1 _ _ _ _)
      | (with_reducible exact ih2 _ _ _ _)
      | (with_reducible exact ih3 _ _ _ _ _ _)
      | (with_reducible exact ih4 _ _ _ _ _ _)
      | (with_reducible exact ih5 _ _ _ _ _ _ _ _)
      | (with_reducible exact ih6 _ _ _ _ _ _ _ _ _)
      | (with_reducible exact quarrellaw11_alive.mono _)
      | (with_reducible exact quarrelref01_Vals.mono _ _ _)
      | (with_reducible exact quarrelref11_Right.mono _ _ _)
      | (with_reducible exact LeO.refl _)
      | (with_reducible exact LeO.none _)
      | (with_reducible refine LeO.ite ?_ ?_)
      | (with_reducible refine LeO.bind ?_ (fun _ => ?_))
      | exact ih0 _ _ _
      | exact ih1 _ _ _ _
      | exact ih2 _ _ _ _
      | exact ih3 _ _ _ _ _ _
      | exact ih4 _ _ _ _ _ _
      | exact ih5 _ _ _ _ _ _ _ _
      | exact ih6 _ _ _ _ _ _ _ _ _
      | exact quarrellaw11_alive.mono _
      | exact quarrelref01_Vals.mono _ _ _
      | exact quarrelref11_Right.mono _ _ _
      | exact LeO.none _
      | refine LeO.ite ?_ ?_
      | refine LeO.bind ?_ (fun _ => ?_)
theorem quarrellaw11_LangLast.mono : ∀ a0 a1 k, LeO (quarrellaw11_LangLast.f k a0 a1) (quarrellaw11_LangLast.f (k + 1) a0 a1) := by
  intro a0 a1 k
  obtain ⟨ih0, ih1, ih2, ih3, ih4, ih5, ih6⟩ := quarrellaw11_LangLast.mono_l k
  unfold quarrellaw11_LangLast.f
  repeat' first
      | (with_reducible exact ih0 _ _ _)
      | (with_reducible exact ih1 _ _ _ _)
      | (with_reducible exact ih2 _ _ _ _)
      | (with_reducible exact ih3 _ _ _ _ _ _)
      | (with_reducible exact ih4 _ _ _ _ _ _)
      | (with_reducible exact ih5 _ _ _ _ _ _ _ _)
      | (with_reducible exact ih6 _ _ _ _ _ _ _ _ _)
      | (with_reducible exact quarrellaw11_alive.mono _)
      | (with_reducible exact quarrelref01_Vals.mono _ _ _)
      | (with_reducible exact quarrelref11_Right.mono _ _ _)
      | (with_reducible exact LeO.refl _)
      | (with_reducible exact LeO.none _)
      | (with_reducible refine LeO.ite ?_ ?_)
      | (with_reducible refine LeO.bind ?_ (fun _ => ?_))
      | exact ih0 _ _ _
      | exact ih1 _ _ _ _
      | exact ih2 _ _ _ _
      | exact ih3 _ _ _ _ _ _
      | exact ih4 _ _ _ _ _ _
      | exact ih5 _ _ _ _ _ _ _ _
      | exact ih6 _ _ _ _ _ _ _ _ _
      | exact quarrellaw11_alive.mono _
      | exact quarrelref01_Vals.mono _ _ _
      | exact quarrelref11_Right.mono _ _ _
      | exact LeO.none _
      | refine LeO.ite ?_ ?_
      | refine LeO.bind ?_ (fun _ => ?_)
def quarrellaw11_LangLast.T24 : Bool × List (List Nat × List Nat) := (true, [([], []), ([], []), ([], []), ([1, 2], [1, 2]), ([0, 3], [0, 3]), ([], []), ([], []), ([6], [6]), ([7], [7]), ([5, 8], [5, 8]), ([4, 9, 4], [4, 9]), ([], []), ([10, 11, 10], [10, 11]), ([12], [12]), ([13], [13]), ([13], [13]), ([14, 12, 0, 1, 2, 3, 4, 5, 6, 7, 8, 9, 10, 11, 12, 13, 14], [14]), ([15, 16, 0, 1, 2, 3, 4, 5, 6, 7, 8, 9, 10, 11, 12, 13, 14, 15, 16], [15])])
def quarrellaw11_LangLast.B24 : List Nat := [0, 0, 0, 6, 15, 0, 0, 64, 192, 480, 1023, 0, 4095, 8191, 16383, 16383, 32767, 131071]
theorem quarrellaw11_LangLast.tab24 : rtab .any (opsOf Try.f5 24) = quarrellaw11_LangLast.T24 := by kernel_rfl
theorem quarrellaw11_LangLast.bits24 : waitsOk quarrellaw11_LangLast.T24.2 quarrellaw11_LangLast.B24 = true := by kernel_rfl
set_option maxHeartbeats 8000000 in
set_option maxRecDepth 100000 in
theorem quarrellaw11_LangLast.calls (k : Nat) (A0 : Option Addr) (c0 : Nat) (l0 : List (S33)) (A1 : Option Addr) (c1 : Nat) (l1 : List Int) (r : Bool) (w : World) (hr0 : Kd.C k33 w A0 l0.length l0) (hc0 : l0.length ≤ c0) (hr1 : Kd.C (Kd.int .i64) w A1 l1.length l1) (hc1 : l1.length ≤ c1) (h : quarrellaw11_LangLast.f k l0 l1 = some r) :
  Calls Try.prog 5 #[.slice A0 l0.length c0, .slice A1 l1.length c1] w fun e w' => e = .returned (.bool r) ∧ Below w.heap.size w w' := by
 have hu33 := Try.underlying33
 have HR0 := Aside0.mk hr0
 have HC0 := Aside0.mk hc0
 clear hr0 hc0
 have HR1 := Aside0.mk hr1
 have HC1 := Aside0.mk hc1
 clear hr1 hc1
 have HB := Aside0.mk (Below.refl w.heap.size w)
 have H : ((quarrellaw11_alive.f k).bind fun t184 => (if t184 = true then (if (l1.length : Int) < 1 then (quarrellaw11_LangLast.j0 k l0 l1 true) else (if (l1.length : Int) > 8 then (quarrellaw11_LangLast.j0 k l0 l1 true) else ((quarrelref11_Right.f k l0 (l1.length : Int)).bind fun t185 => (quarrellaw11_LangLast.j0 k l0 l1 (!t185))))) else (some false))) = some r := h
 clear h
 replace H := Option.bind_eq_some_iff.mp H
 obtain ⟨t184, A30, H⟩ := H
 replace H : (if t184 = true then (if (l1.length : Int) < 1 then (quarrellaw11_LangLast.j0 k l0 l1 true) else (if (l1.length : Int) > 8 then (quarrellaw11_LangLast.j0 k l0 l1 true) else ((quarrelref11_Right.f k l0 (l1.length : Int)).bind fun t185 => (quarrellaw11_LangLast.j0 k l0 l1 (!t185))))) else (some false)) = some r := H
 have A3 := Aside0.mk A30
 clear A30
 by_cases c4 : t184 = true
 ·subst c4
  have H1 : (if (l1.length : Int) < 1 then (quarrellaw11_LangLast.j0 k l0 l1 true) else (if (l1.length : Int) > 8 then (quarrellaw11_LangLast.j0 k l0 l1 true) else ((quarrelref11_Right.f k l0 (l1.length : Int)).bind fun t185 => (quarrellaw11_LangLast.j0 k l0 l1 (!t185))))) = some r := by rw [if_pos rfl] at H; exact H
  clear H
  have H := H1
  clear H1
  have HC5 := Aside0.mk H
  clear H
  go_enter Try.func5, Try.ntmps5
  go_upto_region 3 with (first | ((with_reducible refine gate_callee (f := 10) rfl ?_); refine goesL_ (some 14) rfl rfl Try.func10 (by kernel_rfl) rfl #[] rfl (by (try simp only [List.map_toArray, List.map_cons, List.map_nil]); first | done | rfl | (simp only [List.length_drop, List.length_take]; rfl)) ?_; (with_reducible refine (quarrellaw11_alive.calls k  true _ A3.out).mono ?_); rintro e w6 ⟨rfl, hb⟩; refine ⟨_, rfl, ?_⟩; have n0_ := Aside0.mk (below_step (by repeat (first | (with_reducible first | exact HB.out | apply below_alloc | apply pw_below_drewN | apply below_drew1) | exact HB.out)) hb); clear HB; have HB := n0_; clear n0_; (try clear hb); (try clear hb2); (try clear hk); (try clear hi)))
  (try simp only [Act.put, List.setIfInBounds_toArray, List.set_cons_zero, List.set_cons_succ])
  go_cut [30] (fun v30 wc => ∃ (kq : Nat) (x30_4 : Bool), v30 = .bool x30_4 ∧ Aside0 (quarrellaw11_LangLast.j0 kq l0 l1 x30_4 = some r) ∧ Aside0 (kq ≤ k) ∧ Aside0 (Below w.heap.size w wc))
  case first =>
   have H := HC5.out
   clear HC5
   by_cases c7 : (l1.length : Int) < 1
   ·rw [if_pos c7] at H
    have c7b0 : decide ((l1.length : Int) < 1) = true := decide_eq_true c7
    have c7b1 : decide (l1.length < 1) = true := decide_eq_true (by omega)
    clear c7
    (first | rw [c7b0] | (simp only [i64_w, i32_w]; rw [c7b0]) | skip)
    have H' := Aside0.mk H
    clear H
    go_wp2
    go_meet
    case rel => exact ⟨_, (true), (by first | rfl | (simp; done) | (simp [*]; done)), H', ⟨by first | omega | exact Nat.le_refl _⟩, ⟨by repeat (first | (with_reducible first | exact HB.out | apply below_alloc | apply pw_below_drewN | apply below_drew1) | exact HB.out)⟩⟩
   ·rw [if_neg c7] at H
    have c7b0 : decide ((l1.length : Int) < 1) = false := decide_eq_false c7
    have c7b1 : decide (l1.length < 1) = false := decide_eq_false (by omega)
    clear c7
    (first | rw [c7b0] | (simp only [i64_w, i32_w]; rw [c7b0]) | skip)
    by_cases c8 : (l1.length : Int) > 8
    ·rw [if_pos c8] at H
     have c8b0 : decide (8 < (l1.length : Int)) = true := decide_eq_true c8
     have c8b1 : decide (8 < l1.length) = true := decide_eq_true (by omega)
     clear c8
     have H' := Aside0.mk H
     clear H
     go_wp2
     go_meet
     case rel => exact ⟨_, (true), (by first | rfl | (simp; done) | (simp [*]; done)), H', ⟨by first | omega | exact Nat.le_refl _⟩, ⟨by repeat (first | (with_reducible first | exact HB.out | apply below_alloc | apply pw_below_drewN | apply below_drew1) | exact HB.out)⟩⟩
    ·rw [if_neg c8] at H
     have c8b0 : decide (8 < (l1.length : Int)) = false := decide_eq_false c8
     have c8b1 : decide (8 < l1.length) = false := decide_eq_false (by omega)
     clear c8
     replace H := Option.bind_eq_some_iff.mp H
     obtain ⟨t185, A90, H⟩ := H
     replace H : (quarrellaw11_LangLast.j0 k l0 l1 (!t185)) = some r := H
     have A9 := Aside0.mk A90
     clear A90
     have H' := Aside0.mk H
     clear H
     go_wp2_with (first | (go_at_call 13; (with_reducible refine (quarrelref11_Right.calls k _ _ l0 (l1.length : Int) t185 _ ?side1 ?side2 A9.out).mono ?_); (case side1 => repeat (first | exact (Kd.C_below HR0.out HB.out) | (with_reducible refine Kd.C_alloc ?_ _) | (with_reducible refine Kd.C_drewN ?_ _) | (with_reducible refine Kd.C_drew ?_))); (case side2 => exact HC0.out); rintro e w10 ⟨rfl, hb⟩; have n0_ := Aside0.mk (below_step (by repeat (first | (with_reducible first | exact HB.out | apply below_alloc | apply pw_below_drewN | apply below_drew1) | exact HB.out)) hb); clear HB; have HB := n0_; clear n0_; (try clear hb); (try clear hb2); (try clear hk); (try clear hi)))
     go_meet
     case rel => exact ⟨_, (!t185), (by first | rfl | (simp; done) | (simp [*]; done)), H', ⟨by first | omega | exact Nat.le_refl _⟩, ⟨by repeat (first | (with_reducible first | exact HB.out | apply below_alloc | apply pw_below_drewN | apply below_drew1) | exact HB.out)⟩⟩
  case rest =>
   clear HC5
   try clear c1
   try clear p2
   try clear c4
   try clear c5
   try clear c7
   try clear c7b0
   try clear c7b1
   try clear c8
   try clear c8b0
   try clear c8b1
   try clear c10
   obtain ⟨kq, x30_4, rfl, HA, HJ4, HB⟩ := hcut
   cases kq with
   | zero => exact absurd HA.out (by simp [quarrellaw11_LangLast.j0])
   | succ kj4 =>
    have H := HA.out
    clear HA
    simp only [quarrellaw11_LangLast.j0] at H
    by_cases c11 : x30_4 = true
    ·subst c11
     have H1 : (some true) = some r := by rw [if_pos rfl] at H; exact H
     clear H
     have H := H1
     clear H1
     obtain rfl := Option.some.inj H
     go_wp2
     go_ret
     exact ⟨by first | rfl | (simp [errW_none, errW_some] <;> rfl) | (simp [*, errW_none, errW_some] <;> rfl), by repeat (first | (with_reducible first | exact HB.out | apply below_alloc | apply pw_below_drewN | apply below_drew1) | exact HB.out)⟩
    ·replace c11 := Bool.eq_false_iff.mpr c11
     subst c11
     have H1 : ((lang_Alone.f l0 l1).bind fun bt186 => (if bt186.2 = 0 then (quarrellaw11_LangLast.j1 kj4 l0 l1 bt186.1 ((bt186.1.length : Int) != (l1.length : Int))) else (quarrellaw11_LangLast.j1 kj4 l0 l1 bt186.1 true))) = some r := by rw [if_neg (show ¬ (false = true) by decide)] at H; exact H
     clear H
     have H := H1
     clear H1
     replace H := Option.bind_eq_some_iff.mp H
     obtain ⟨⟨t186, t187⟩, A120, H⟩ := H
     replace H : (if t187 = 0 then (quarrellaw11_LangLast.j1 kj4 l0 l1 t186 ((t186.length : Int) != (l1.length : Int))) else (quarrellaw11_LangLast.j1 kj4 l0 l1 t186 true)) = some r := H
     have A12 := Aside0.mk A120
     clear A120
     have HC13 := Aside0.mk H
     clear H
     go_upto_region 6 with (first | ((with_reducible refine gate_callee (f := 11) rfl ?_); refine goesL_ (some 34) rfl rfl Try.func11 (by kernel_rfl) rfl #[.slice A0 l0.length c0, .slice A1 l1.length c1] rfl (by (try simp only [List.map_toArray, List.map_cons, List.map_nil]); first | done | rfl | (simp only [List.length_drop, List.length_take]; rfl)) ?_; (with_reducible refine (lang_Alone.calls _ _ l0 _ _ l1 t186 t187 _ ?side1 ?side2 ?side3 ?side4 A12.out).mono ?_); (case side1 => repeat (first | exact (Kd.C_below HR0.out HB.out) | (with_reducible refine Kd.C_alloc ?_ _) | (with_reducible refine Kd.C_drewN ?_ _) | (with_reducible refine Kd.C_drew ?_))); (case side2 => exact HC0.out); (case side3 => repeat (first | exact (Kd.C_below HR1.out HB.out) | (with_reducible refine Kd.C_alloc ?_ _) | (with_reducible refine Kd.C_drewN ?_ _) | (with_reducible refine Kd.C_drew ?_))); (case side4 => exact HC1.out); rintro e w14 ⟨v188, rfl, ho0, hb⟩; refine ⟨_, rfl, ?_⟩; have n0_ := Aside0.mk (Kd.R_lower ho0 (below_size (by repeat (first | (with_reducible first | exact HB.out | apply below_alloc | apply pw_below_drewN | apply below_drew1) | exact HB.out)))); have n1_ := Aside0.mk (below_step (by repeat (first | (with_reducible first | exact HB.out | apply below_alloc | apply pw_below_drewN | apply below_drew1) | exact HB.out)) hb); clear HB; have HO189 := n0_; have HB := n1_; clear n0_ n1_; (try clear hb); (try clear hb2); (try clear hk); (try clear hi); (try clear ho0)))
     (try simp only [Act.put, List.setIfInBounds_toArray, List.set_cons_zero, List.set_cons_succ])
     go_cut [45] (fun v45 wc => ∃ (kq : Nat) (x45_12 : Bool), v45 = .bool x45_12 ∧ Aside0 (quarrellaw11_LangLast.j1 kq l0 l1 t186 x45_12 = some r) ∧ Aside0 (kq ≤ kj4) ∧ Aside0 (Kd.R (Kd.int .i64) 2 wc w.heap.size (fun _ => True) v188 t186) ∧ Aside0 (Below w.heap.size w wc))
     case first =>
      have H := HC13.out
      clear HC13
      by_cases c15 : t187 = 0
      ·rw [if_pos c15] at H
       have c15b0 : (t187 == 0) = true := beq_iff_eq.mpr c15
       have c15b1 : (t187 != 0) = false := bne_eq_false_iff_eq.mpr c15
       clear c15
       (first | rw [c15b0] | (simp only [i64_w, i32_w]; rw [c15b0]) | skip)
       have H' := Aside0.mk H
       clear H
       obtain ⟨Ao16, co16, eo16⟩ := Kd.R_slice HO189.out
       subst eo16
       go_wp2
       go_meet
       case rel => exact ⟨_, (((t186.length : Int) != (l1.length : Int))), (by first | rfl | (simp; done) | (simp [*]; done)), H', ⟨by have := HJ4.out; first | omega | exact Nat.le_refl _⟩, ⟨by (with_reducible repeat (first | apply Kd.R_alloc | apply Kd.R_drewN | apply Kd.R_drew)); exact HO189.out⟩, ⟨by repeat (first | (with_reducible first | exact HB.out | apply below_alloc | apply pw_below_drewN | apply below_drew1) | exact HB.out)⟩⟩
      ·rw [if_neg c15] at H
       have c15b0 : (t187 == 0) = false := beq_eq_false_iff_ne.mpr c15
       have c15b1 : (t187 != 0) = true := bne_iff_ne.mpr c15
       (first | rw [c15b0] | (simp only [i64_w, i32_w]; rw [c15b0]) | skip)
       have H' := Aside0.mk H
       clear H
       go_wp2
       go_meet
       case rel => exact ⟨_, (true), (by first | rfl | (simp; done) | (simp [*]; done)), H', ⟨by have := HJ4.out; first | omega | exact Nat.le_refl _⟩, ⟨by (with_reducible repeat (first | apply Kd.R_alloc | apply Kd.R_drewN | apply Kd.R_drew)); exact HO189.out⟩, ⟨by repeat (first | (with_reducible first | exact HB.out | apply below_alloc | apply pw_below_drewN | apply below_drew1) | exact HB.out)⟩⟩
     case rest =>
      clear HC13
      try clear c1
      try clear p2
      try clear c4
      try clear c5
      try clear c7
      try clear c7b0
      try clear c7b1
      try clear c8
      try clear c8b0
      try clear c8b1
      try clear c10
      try clear c11
      try clear c15
      try clear c15b0
      try clear c15b1
      try clear p2
      obtain ⟨kq, x45_12, rfl, HA, HJ12, HO_5, HB⟩ := hcut
      cases kq with
      | zero => exact absurd HA.out (by simp [quarrellaw11_LangLast.j1])
      | succ kj12 =>
       have H := HA.out
       clear HA
       simp only [quarrellaw11_LangLast.j1] at H
       by_cases c17 : x45_12 = true
       ·subst c17
        have H1 : (some false) = some r := by rw [if_pos rfl] at H; exact H
        clear H
        have H := H1
        clear H1
        obtain rfl := Option.some.inj H
        go_wp2
        go_ret
        exact ⟨by first | rfl | (simp [errW_none, errW_some] <;> rfl) | (simp [*, errW_none, errW_some] <;> rfl), by repeat (first | (with_reducible first | exact HB.out | apply below_alloc | apply pw_below_drewN | apply below_drew1) | exact HB.out)⟩
       ·replace c17 := Bool.eq_false_iff.mpr c17
        subst c17
        have H1 : (quarrellaw11_LangLast.l0 kj12 l0 l1 t186 1) = some r := by rw [if_neg (show ¬ (false = true) by decide)] at H; exact H
        clear H
        have H := H1
        clear H1
        have H' := Aside0.mk H
        clear H
        go_wp2
        go_loopg [7] kj12 (fun kq v7 w' => ∃ (x7_3 : Int), v7 = .int .i64 x7_3 ∧ Aside0 (quarrellaw11_LangLast.l0 kq l0 l1 t186 x7_3 = some r) ∧ Aside0 (kq ≤ kj12) ∧ Aside0 (Kd.R (Kd.int .i64) 2 w' w.heap.size (fun _ => True) v188 t186) ∧ Aside0 (Below w.heap.size w w'))
        case atStart => exact ⟨(1), (by first | rfl | (simp; done) | (simp [*]; done)), H', ⟨Nat.le_refl _⟩, ⟨by (with_reducible repeat (first | apply Kd.R_alloc | apply Kd.R_drewN | apply Kd.R_drew)); exact HO_5.out⟩, ⟨by repeat (first | (with_reducible first | exact HB.out | apply below_alloc | apply pw_below_drewN | apply below_drew1) | exact HB.out)⟩⟩
        case round =>
         clear H'
         try clear c1
         try clear p2
         try clear c4
         try clear c5
         try clear c7
         try clear c7b0
         try clear c7b1
         try clear c8
         try clear c8b0
         try clear c8b1
         try clear c10
         try clear c11
         try clear c15
         try clear c15b0
         try clear c15b1
         try clear c17
         try clear p2
         obtain ⟨x7_3, rfl, HA, HK3, HO_5, HB⟩ := hrel
         cases gk with
         | zero => exact absurd HA.out (by simp [quarrellaw11_LangLast.l0])
         | succ k3 =>
          have H := HA.out
          clear HA
          simp only [quarrellaw11_LangLast.l0] at H
          by_cases c18 : x7_3 ≤ (l0.length : Int)
          ·rw [if_pos c18] at H
           have c18b0 : decide (x7_3 ≤ (l0.length : Int)) = true := decide_eq_true c18
           clear c18
           by_cases c19 : 0 ≤ x7_3
           ·rw [if_pos c19] at H
            have c19b0 := eq_true c19
            have c19b1 : decide (0 ≤ x7_3) = true := decide_eq_true c19
            clear c19
            have c20b0 := eq_true (of_decide_eq_true (by first | (with_reducible assumption) | assumption) : x7_3 ≤ (l0.length : Int))
            obtain ⟨y190, hy190⟩ : ∃ y_ : List (S33), y_ = (l0.take (x7_3 : Int).toNat) := ⟨_, rfl⟩
            replace H : ((lang_Alone.f y190 l1).bind fun bt194 => (if bt194.2 = 0 then (quarrellaw11_LangLast.j3 k3 l0 l1 t186 x7_3 bt194.1 ((bt194.1.length : Int) != (l1.length : Int))) else (quarrellaw11_LangLast.j3 k3 l0 l1 t186 x7_3 bt194.1 true))) = some r := by first | (rw [hy190]; with_reducible exact H) | (have H2_ := (Option.bind_some _ _).symm.trans H; rw [hy190]; with_reducible exact H2_) | (have H2_ := (Option.bind_some _ _).symm.trans H; with_reducible exact H2_) | with_reducible exact H | (rw [hy190]; exact H) | exact H
            have Ny190 := Aside0.mk hy190
            clear hy190
            replace H := Option.bind_eq_some_iff.mp H
            obtain ⟨⟨t194, t195⟩, A210, H⟩ := H
            replace H : (if t195 = 0 then (quarrellaw11_LangLast.j3 k3 l0 l1 t186 x7_3 t194 ((t194.length : Int) != (l1.length : Int))) else (quarrellaw11_LangLast.j3 k3 l0 l1 t186 x7_3 t194 true)) = some r := H
            have A21 := Aside0.mk A210
            clear A210
            have HC22 := Aside0.mk H
            clear H
            have q23 : (x7_3 : Int) ≤ ((l0.length : Int) : Int) := of_decide_eq_true (by first | (with_reducible assumption) | assumption)
            obtain ⟨i023, hi023, _, hsz23, _⟩ := info_parts info33
            have hroom23 : l0.length ≤ c0 := HC0.out
            have hC23 : Kd.C k33 _ A0 l0.length l0 := HR0.out
            have hcut23 := cut_to (P := Try.prog) 22 33 .i64 Try.underlying22 hi023 A0 l0.length c0 x7_3 (of_decide_eq_true (by first | (with_reducible assumption) | assumption)) q23 hroom23
            have hr23 := Kd.C_take (m := (x7_3 : Int).toNat) hC23 (by omega)
            have hy23 : y190.length = (x7_3 : Int).toNat := (by rw [Ny190.out, List.length_take]; omega)
            rw [← Ny190.out] at hr23
            rw [← hy23] at hcut23
            have HR193 := Aside0.mk hr23
            have HC193 := Aside0.mk (show y190.length ≤ c0 from by omega)
            clear hr23 hC23 hroom23 hi023 hsz23
            have KY23 := Aside0.mk hy23
            clear hy23
            replace q23 := eq_true q23
            go_upto_region 12 with (first | ((with_reducible refine gate_callee (f := 11) rfl ?_); refine goesL_ (some 57) rfl rfl Try.func11 (by kernel_rfl) rfl #[.slice A0 y190.length c0, .slice A1 l1.length c1] rfl (by (try simp only [List.map_toArray, List.map_cons, List.map_nil]); first | done | rfl | (simp only [List.length_drop, List.length_take]; rfl)) ?_; (with_reducible refine (lang_Alone.calls _ _ y190 _ _ l1 t194 t195 _ ?side1 ?side2 ?side3 ?side4 A21.out).mono ?_); (case side1 => repeat (first | exact (Kd.C_below HR193.out HB.out) | (with_reducible refine Kd.C_alloc ?_ _) | (with_reducible refine Kd.C_drewN ?_ _) | (with_reducible refine Kd.C_drew ?_))); (case side2 => exact HC193.out); (case side3 => repeat (first | exact (Kd.C_below HR1.out HB.out) | (with_reducible refine Kd.C_alloc ?_ _) | (with_reducible refine Kd.C_drewN ?_ _) | (with_reducible refine Kd.C_drew ?_))); (case side4 => exact HC1.out); rintro e w24 ⟨v196, rfl, ho0, hb⟩; refine ⟨_, rfl, ?_⟩; have n0_ := Aside0.mk (Kd.R_elder' (by (with_reducible repeat (first | apply Kd.R_alloc | apply Kd.R_drewN | apply Kd.R_drew)); exact HO_5.out) (Kd.R_base ho0) hb); have n1_ := Aside0.mk (Kd.R_lower (Kd.R_new' ho0 (Kd.R_lt (by (with_reducible repeat (first | apply Kd.R_alloc | apply Kd.R_drewN | apply Kd.R_drew)); exact HO_5.out))) (below_size (by repeat (first | (with_reducible first | exact HB.out | apply below_alloc | apply pw_below_drewN | apply below_drew1) | exact HB.out)))); have n2_ := Aside0.mk (below_step (by repeat (first | (with_reducible first | exact HB.out | apply below_alloc | apply pw_below_drewN | apply below_drew1) | exact HB.out)) hb); clear HO_5; clear HB; have HO_5 := n0_; have HO197 := n1_; have HB := n2_; clear n0_ n1_ n2_; (try clear hb); (try clear hb2); (try clear hk); (try clear hi); (try clear ho0)))
            (try simp only [Act.put, List.setIfInBounds_toArray, List.set_cons_zero, List.set_cons_succ])
            go_cut [68] (fun v68 wc => ∃ (kq : Nat) (x68_21 : Bool), v68 = .bool x68_21 ∧ Aside0 (quarrellaw11_LangLast.j3 kq l0 l1 t186 x7_3 t194 x68_21 = some r) ∧ Aside0 (kq ≤ k3) ∧ Aside0 (Kd.R (Kd.int .i64) 2 wc w.heap.size (fun k_ => some k_ ≠ (v196 : Value).ownBlock) v188 t186) ∧ Aside0 (Kd.R (Kd.int .i64) 2 wc w.heap.size (fun k_ => some k_ ≠ (v188 : Value).ownBlock) v196 t194) ∧ Aside0 (Below w.heap.size w wc))
            case first =>
             have H := HC22.out
             clear HC22
             by_cases c25 : t195 = 0
             ·rw [if_pos c25] at H
              have c25b0 : (t195 == 0) = true := beq_iff_eq.mpr c25
              have c25b1 : (t195 != 0) = false := bne_eq_false_iff_eq.mpr c25
              clear c25
              (first | rw [c25b0] | (simp only [i64_w, i32_w]; rw [c25b0]) | skip)
              have H' := Aside0.mk H
              clear H
              obtain ⟨Ao26, co26, eo26⟩ := Kd.R_slice HO197.out
              subst eo26
              go_wp2
              go_meet
              case rel => exact ⟨_, (((t194.length : Int) != (l1.length : Int))), (by first | rfl | (simp; done) | (simp [*]; done)), H', ⟨by have := HJ4.out; have := HJ12.out; have := HK3.out; first | omega | exact Nat.le_refl _⟩, ⟨by (with_reducible repeat (first | apply Kd.R_alloc | apply Kd.R_drewN | apply Kd.R_drew)); exact Kd.R_mono HO_5.out (fun _ hk => hk.2)⟩, ⟨by (with_reducible repeat (first | apply Kd.R_alloc | apply Kd.R_drewN | apply Kd.R_drew)); exact Kd.R_mono HO197.out (fun _ hk => hk.2)⟩, ⟨by repeat (first | (with_reducible first | exact HB.out | apply below_alloc | apply pw_below_drewN | apply below_drew1) | exact HB.out)⟩⟩
             ·rw [if_neg c25] at H
              have c25b0 : (t195 == 0) = false := beq_eq_false_iff_ne.mpr c25
              have c25b1 : (t195 != 0) = true := bne_iff_ne.mpr c25
              (first | rw [c25b0] | (simp only [i64_w, i32_w]; rw [c25b0]) | skip)
              have H' := Aside0.mk H
              clear H
              go_wp2
              go_meet
              case rel => exact ⟨_, (true), (by first | rfl | (simp; done) | (simp [*]; done)), H', ⟨by have := HJ4.out; have := HJ12.out; have := HK3.out; first | omega | exact Nat.le_refl _⟩, ⟨by (with_reducible repeat (first | apply Kd.R_alloc | apply Kd.R_drewN | apply Kd.R_drew)); exact Kd.R_mono HO_5.out (fun _ hk => hk.2)⟩, ⟨by (with_reducible repeat (first | apply Kd.R_alloc | apply Kd.R_drewN | apply Kd.R_drew)); exact Kd.R_mono HO197.out (fun _ hk => hk.2)⟩, ⟨by repeat (first | (with_reducible first | exact HB.out | apply below_alloc | apply pw_below_drewN | apply below_drew1) | exact HB.out)⟩⟩
            case rest =>
             clear HC22
             try clear c1
             try clear c2
             try clear p2
             try clear q2
             try clear c4
             try clear c5
             try clear c7
             try clear c7b0
             try clear c7b1
             try clear c8
             try clear c8b0
             try clear c8b1
             try clear c10
             try clear c11
             try clear c15
             try clear c15b0
             try clear c15b1
             try clear c17
             try clear c18
             try clear c18b0
             try clear c19
             try clear c19b0
             try clear c19b1
             try clear c20
             try clear c20b0
             try clear q23
             try clear c25
             try clear c25b0
             try clear c25b1
             try clear p2
             try clear q23
             obtain ⟨kq, x68_21, rfl, HA, HJ21, HO_5, HO_8, HB⟩ := hcut
             cases kq with
             | zero => exact absurd HA.out (by simp [quarrellaw11_LangLast.j3])
             | succ kj21 =>
              have H := HA.out
              clear HA
              simp only [quarrellaw11_LangLast.j3] at H
              by_cases c27 : x68_21 = true
              ·subst c27
               have H1 : (some false) = some r := by rw [if_pos rfl] at H; exact H
               clear H
               have H := H1
               clear H1
               obtain rfl := Option.some.inj H
               go_wp2
               go_ret
               exact ⟨by first | rfl | (simp [errW_none, errW_some] <;> rfl) | (simp [*, errW_none, errW_some] <;> rfl), by repeat (first | (with_reducible first | exact HB.out | apply below_alloc | apply pw_below_drewN | apply below_drew1) | exact HB.out)⟩
              ·replace c27 := Bool.eq_false_iff.mpr c27
               subst c27
               have H1 : (if x7_3 = (l0.length : Int) then ((quarrelref01_Vals.f kj21 t194 t186).bind fun t198 => (quarrellaw11_LangLast.j4 kj21 l0 l1 t186 x7_3 t194 (!t198))) else (quarrellaw11_LangLast.j4 kj21 l0 l1 t186 x7_3 t194 false)) = some r := by rw [if_neg (show ¬ (false = true) by decide)] at H; exact H
               clear H
               have H := H1
               clear H1
               have HC28 := Aside0.mk H
               clear H
               go_upto_region 14 with (fail)
               go_cut [78] (fun v78 wc => ∃ (kq : Nat) (x78_27 : Bool), v78 = .bool x78_27 ∧ Aside0 (quarrellaw11_LangLast.j4 kq l0 l1 t186 x7_3 t194 x78_27 = some r) ∧ Aside0 (kq ≤ kj21) ∧ Aside0 (Kd.R (Kd.int .i64) 2 wc w.heap.size (fun k_ => some k_ ≠ (v196 : Value).ownBlock) v188 t186) ∧ Aside0 (Kd.R (Kd.int .i64) 2 wc w.heap.size (fun k_ => some k_ ≠ (v188 : Value).ownBlock) v196 t194) ∧ Aside0 (Below w.heap.size w wc))
               case first =>
                have H := HC28.out
                clear HC28
                by_cases c29 : x7_3 = (l0.length : Int)
                ·rw [if_pos c29] at H
                 have c29b0 : (x7_3 == (l0.length : Int)) = true := beq_iff_eq.mpr c29
                 have c29b1 : (x7_3 != (l0.length : Int)) = false := bne_eq_false_iff_eq.mpr c29
                 clear c29
                 (first | rw [c29b0] | (simp only [i64_w, i32_w]; rw [c29b0]) | skip)
                 replace H := Option.bind_eq_some_iff.mp H
                 obtain ⟨t198, A300, H⟩ := H
                 replace H : (quarrellaw11_LangLast.j4 kj21 l0 l1 t186 x7_3 t194 (!t198)) = some r := H
                 have A30 := Aside0.mk A300
                 clear A300
                 have H' := Aside0.mk H
                 clear H
                 obtain ⟨Ao31, co31, eo31⟩ := Kd.R_slice HO_8.out
                 subst eo31
                 obtain ⟨Ao32, co32, eo32⟩ := Kd.R_slice HO_5.out
                 subst eo32
                 go_wp2_with (first | (go_at_call 12; (with_reducible refine (quarrelref01_Vals.calls kj21 _ _ t194 _ _ t186 t198 _ ?side1 ?side2 ?side3 ?side4 A30.out).mono ?_); (case side1 => repeat (first | exact (Kd.R_reads' HO_8.out).2.2 | (with_reducible refine Kd.C_alloc ?_ _) | (with_reducible refine Kd.C_drewN ?_ _) | (with_reducible refine Kd.C_drew ?_))); (case side2 => exact (Kd.R_reads' HO_8.out).2.1); (case side3 => repeat (first | exact (Kd.R_reads' HO_5.out).2.2 | (with_reducible refine Kd.C_alloc ?_ _) | (with_reducible refine Kd.C_drewN ?_ _) | (with_reducible refine Kd.C_drew ?_))); (case side4 => exact (Kd.R_reads' HO_5.out).2.1); rintro e w' ⟨rfl, ⟨nd, rfl⟩⟩))
                 go_meet
                 case rel => exact ⟨_, (!t198), (by first | rfl | (simp; done) | (simp [*]; done)), H', ⟨by have := HJ4.out; have := HJ12.out; have := HK3.out; have := HJ21.out; first | omega | exact Nat.le_refl _⟩, ⟨by (with_reducible repeat (first | apply Kd.R_alloc | apply Kd.R_drewN | apply Kd.R_drew)); exact HO_5.out⟩, ⟨by (with_reducible repeat (first | apply Kd.R_alloc | apply Kd.R_drewN | apply Kd.R_drew)); exact HO_8.out⟩, ⟨by repeat (first | (with_reducible first | exact HB.out | apply below_alloc | apply pw_below_drewN | apply below_drew1) | exact HB.out)⟩⟩
                ·rw [if_neg c29] at H
                 have c29b0 : (x7_3 == (l0.length : Int)) = false := beq_eq_false_iff_ne.mpr c29
                 have c29b1 : (x7_3 != (l0.length : Int)) = true := bne_iff_ne.mpr c29
                 (first | rw [c29b0] | (simp only [i64_w, i32_w]; rw [c29b0]) | skip)
                 have H' := Aside0.mk H
                 clear H
                 go_wp2
                 go_meet
                 case rel => exact ⟨_, (false), (by first | rfl | (simp; done) | (simp [*]; done)), H', ⟨by have := HJ4.out; have := HJ12.out; have := HK3.out; have := HJ21.out; first | omega | exact Nat.le_refl _⟩, ⟨by (with_reducible repeat (first | apply Kd.R_alloc | apply Kd.R_drewN | apply Kd.R_drew)); exact HO_5.out⟩, ⟨by (with_reducible repeat (first | apply Kd.R_alloc | apply Kd.R_drewN | apply Kd.R_drew)); exact HO_8.out⟩, ⟨by repeat (first | (with_reducible first | exact HB.out | apply below_alloc | apply pw_below_drewN | apply below_drew1) | exact HB.out)⟩⟩
               case rest =>
                clear HC28
                try clear c1
                try clear c2
                try clear p2
                try clear q2
                try clear c4
                try clear c5
                try clear c7
                try clear c7b0
                try clear c7b1
                try clear c8
                try clear c8b0
                try clear c8b1
                try clear c10
                try clear c11
                try clear c15
                try clear c15b0
                try clear c15b1
                try clear c17
                try clear c18
                try clear c18b0
                try clear c19
                try clear c19b0
                try clear c19b1
                try clear c20
                try clear c20b0
                try clear q23
                try clear c25
                try clear c25b0
                try clear c25b1
                try clear c27
                try clear c29
                try clear c29b0
                try clear c29b1
                try clear p2
                try clear q2
                try clear q23
                obtain ⟨kq, x78_27, rfl, HA, HJ27, HO_5, HO_8, HB⟩ := hcut
                cases kq with
                | zero => exact absurd HA.out (by simp [quarrellaw11_LangLast.j4])
                | succ kj27 =>
                 have H := HA.out
                 clear HA
                 simp only [quarrellaw11_LangLast.j4] at H
                 by_cases c33 : x78_27 = true
                 ·subst c33
                  have H1 : (some false) = some r := by rw [if_pos rfl] at H; exact H
                  clear H
                  have H := H1
                  clear H1
                  obtain rfl := Option.some.inj H
                  go_wp2
                  go_ret
                  exact ⟨by first | rfl | (simp [errW_none, errW_some] <;> rfl) | (simp [*, errW_none, errW_some] <;> rfl), by repeat (first | (with_reducible first | exact HB.out | apply below_alloc | apply pw_below_drewN | apply below_drew1) | exact HB.out)⟩
                 ·replace c33 := Bool.eq_false_iff.mpr c33
                  subst c33
                  have H1 : (if 0 ≤ (wrap64 (x7_3 - 1)) then (if (wrap64 (x7_3 - 1)) < (l0.length : Int) then (if ((rd_T33 l0 (wrap64 (x7_3 - 1))).f0) = 2 then (quarrellaw11_LangLast.j5 kj27 l0 l1 t186 x7_3 t194 ((rd_T33 l0 (wrap64 (x7_3 - 1))).f0) ((rd_T33 l0 (wrap64 (x7_3 - 1))).f1) ((rd_T33 l0 (wrap64 (x7_3 - 1))).f2)) else (if x7_3 > 1 then (if (wrap64 (x7_3 - 1)) ≤ (l0.length : Int) then ((lang_Alone.f (l0.take ((wrap64 (x7_3 - 1)) : Int).toNat) l1).bind fun bt205 => ((quarrelref01_Vals.f kj27 t194 bt205.1).bind fun t209 => (if t209 = true then (quarrellaw11_LangLast.j5 kj27 l0 l1 t186 x7_3 t194 ((rd_T33 l0 (wrap64 (x7_3 - 1))).f0) ((rd_T33 l0 (wrap64 (x7_3 - 1))).f1) ((rd_T33 l0 (wrap64 (x7_3 - 1))).f2)) else (some false)))) else (none)) else ((quarrelref01_Vals.f kj27 t194 l1).bind fun t210 => (if t210 = true then (quarrellaw11_LangLast.j5 kj27 l0 l1 t186 x7_3 t194 ((rd_T33 l0 (wrap64 (x7_3 - 1))).f0) ((rd_T33 l0 (wrap64 (x7_3 - 1))).f1) ((rd_T33 l0 (wrap64 (x7_3 - 1))).f2)) else (some false))))) else (none)) else (none)) = some r := by rw [if_neg (show ¬ (false = true) by decide)] at H; exact H
                  clear H
                  have H := H1
                  clear H1
                  obtain ⟨ji34, hji34⟩ : ∃ j_ : Int, (wrap64 (x7_3 - 1)) = j_ := ⟨_, rfl⟩
                  replace H : (if 0 ≤ (ji34) then (if (ji34) < (l0.length : Int) then (if ((rd_T33 l0 (ji34)).f0) = 2 then (quarrellaw11_LangLast.j5 kj27 l0 l1 t186 x7_3 t194 ((rd_T33 l0 (ji34)).f0) ((rd_T33 l0 (ji34)).f1) ((rd_T33 l0 (ji34)).f2)) else (if x7_3 > 1 then (if (ji34) ≤ (l0.length : Int) then ((lang_Alone.f (l0.take ((ji34) : Int).toNat) l1).bind fun bt205 => ((quarrelref01_Vals.f kj27 t194 bt205.1).bind fun t209 => (if t209 = true then (quarrellaw11_LangLast.j5 kj27 l0 l1 t186 x7_3 t194 ((rd_T33 l0 (ji34)).f0) ((rd_T33 l0 (ji34)).f1) ((rd_T33 l0 (ji34)).f2)) else (some false)))) else (none)) else ((quarrelref01_Vals.f kj27 t194 l1).bind fun t210 => (if t210 = true then (quarrellaw11_LangLast.j5 kj27 l0 l1 t186 x7_3 t194 ((rd_T33 l0 (ji34)).f0) ((rd_T33 l0 (ji34)).f1) ((rd_T33 l0 (ji34)).f2)) else (some false))))) else (none)) else (none)) = some r := by first | (rw [hji34] at H; exact H) | (simp only [hji34] at H ⊢; exact H)
                  have hji34w : (IntKind.i64.wrap (x7_3 - 1)) = ji34 := (i64_w _).trans hji34
                  by_cases c35 : 0 ≤ (ji34)
                  ·rw [if_pos c35] at H
                   have c35b0 : decide (0 ≤ (ji34)) = true := decide_eq_true c35
                   clear c35
                   by_cases c36 : (ji34) < (l0.length : Int)
                   ·rw [if_pos c36] at H
                    have c36b0 : decide ((ji34) < (l0.length : Int)) = true := decide_eq_true c36
                    clear c36
                    have HC37 := Aside0.mk H
                    clear H
                    have p199 : 0 ≤ ((ji34) : Int) := of_decide_eq_true (by first | (with_reducible assumption) | assumption)
                    have q199 : (ji34) < (l0.length : Int) := of_decide_eq_true (by first | (with_reducible assumption) | assumption)
                    obtain ⟨ad199, e199, hx199_0, hx199_1, hx199_2⟩ := at_T33 HR0.out (ji34) p199 q199
                    cases e199
                    replace hx199_0 := (HB.out.cell (World.block_lt_of_cell? w _ hx199_0)).trans hx199_0
                    replace hx199_1 := (HB.out.cell (World.block_lt_of_cell? w _ hx199_1)).trans hx199_1
                    replace hx199_2 := (HB.out.cell (World.block_lt_of_cell? w _ hx199_2)).trans hx199_2
                    replace p199 := eq_true p199
                    replace q199 := eq_true q199
                    go_upto_if 86 with (first | ((with_reducible refine gate_dst (N := 10) rfl ?_); (try (refine gate_guard (by rfl) ?_; dsimp only)); refine box_event ?hg (N := 10) ?hd (cs := #[.int .i64 0, .int .i64 0, .int .i64 0]) (t := 33) ?hr ?_; (case hd => rfl); (case hg => rfl); (case hr => first | (go_simp; done) | (go_simp; rfl)); intro gb200 hg w38 hbox hb; have n0_ := Aside0.mk (Kd.R_below (by (with_reducible repeat (first | apply Kd.R_alloc | apply Kd.R_drewN | apply Kd.R_drew)); exact HO_5.out) hb); have n1_ := Aside0.mk (Kd.R_below (by (with_reducible repeat (first | apply Kd.R_alloc | apply Kd.R_drewN | apply Kd.R_drew)); exact HO_8.out) hb); have n2_ := Aside0.mk (below_step (by repeat (first | (with_reducible first | exact HB.out | apply below_alloc | apply pw_below_drewN | apply below_drew1) | exact HB.out)) hb); have n3_ := Aside0.mk (hbox); have n4_ := Aside0.mk ((by rw [hg]; exact (below_size (by repeat (first | (with_reducible first | exact HB.out | apply below_alloc | apply pw_below_drewN | apply below_drew1) | exact HB.out))) : w.heap.size ≤ gb200)); have n5_ := Aside0.mk ((by rw [hg]; exact (below_size (by repeat (first | (with_reducible first | exact HB.out | apply below_alloc | apply pw_below_drewN | apply below_drew1) | exact HB.out))) : w.heap.size ≤ gb200)); clear HO_5; clear HO_8; clear HB; have HO_5 := n0_; have HO_8 := n1_; have HB := n2_; have BK200 := n3_; have GW200 := n4_; have GE200 := n5_; clear n0_ n1_ n2_ n3_ n4_ n5_; clear hb hbox hg; have hcz39_0 : w38.cell? ⟨gb200, 0, none⟩ = some (.int .i64 0) := (blk_cell BK200.out 0).trans rfl; have hcz39_1 : w38.cell? ⟨gb200, 1, none⟩ = some (.int .i64 0) := (blk_cell BK200.out 1).trans rfl; have hcz39_2 : w38.cell? ⟨gb200, 2, none⟩ = some (.int .i64 0) := (blk_cell BK200.out 2).trans rfl; have hfz39_0 := blk_frozen BK200.out 0; have hfz39_1 := blk_frozen BK200.out 1; have hfz39_2 := blk_frozen BK200.out 2) | ((with_reducible refine gate_store (t := 33) (p := 10) rfl ?_); refine store_event (t := 33) (p := 10) (v := ?vo_w40) (w1 := (((w38.setCell ⟨gb200, 0, none⟩ (.int .i64 ((rd_T33 l0 (ji34)).f0))).setCell ⟨gb200, 1, none⟩ (.int .i64 ((rd_T33 l0 (ji34)).f1))).setCell ⟨gb200, 2, none⟩ (.int .i64 ((rd_T33 l0 (ji34)).f2)))) ?hg ?ho ?hn ?hr ?_; (case ho => rfl); (case hg => rfl); (case hn => rfl); (case hr => first | (go_simp; done) | (go_simp; rfl)); intro w40 hw; have n0_ : Aside0 (Kd.R (Kd.int .i64) 2 w40 w.heap.size (fun k_ => some k_ ≠ (v196 : Value).ownBlock) v188 t186) := ⟨(by rw [hw]; exact (by (with_reducible repeat (first | apply Kd.R_alloc | apply Kd.R_drewN | apply Kd.R_drew)); exact Kd.R_mono (Kd.R_far (p := ⟨gb200, 2, none⟩) (Kd.R_far (p := ⟨gb200, 1, none⟩) (Kd.R_far (p := ⟨gb200, 0, none⟩) (Kd.R_types HO_5.out BK200.out (by decide)) (fun _ hk => hk.2) (.int .i64 ((rd_T33 l0 (ji34)).f0))) (fun _ hk => hk.2) (.int .i64 ((rd_T33 l0 (ji34)).f1))) (fun _ hk => hk.2) (.int .i64 ((rd_T33 l0 (ji34)).f2))) (fun _ hk => hk.1)))⟩; have n1_ : Aside0 (Kd.R (Kd.int .i64) 2 w40 w.heap.size (fun k_ => some k_ ≠ (v188 : Value).ownBlock) v196 t194) := ⟨(by rw [hw]; exact (by (with_reducible repeat (first | apply Kd.R_alloc | apply Kd.R_drewN | apply Kd.R_drew)); exact Kd.R_mono (Kd.R_far (p := ⟨gb200, 2, none⟩) (Kd.R_far (p := ⟨gb200, 1, none⟩) (Kd.R_far (p := ⟨gb200, 0, none⟩) (Kd.R_types HO_8.out BK200.out (by decide)) (fun _ hk => hk.2) (.int .i64 ((rd_T33 l0 (ji34)).f0))) (fun _ hk => hk.2) (.int .i64 ((rd_T33 l0 (ji34)).f1))) (fun _ hk => hk.2) (.int .i64 ((rd_T33 l0 (ji34)).f2))) (fun _ hk => hk.1)))⟩; have n2_ : Aside0 (w40.heap[gb200]? = some (.cells #[.int .i64 ((rd_T33 l0 (ji34)).f0), .int .i64 ((rd_T33 l0 (ji34)).f1), .int .i64 ((rd_T33 l0 (ji34)).f2)] 33 (0, 0))) := ⟨(by rw [hw]; exact (by (with_reducible repeat (first | refine blk_drewN ?_ _ | refine blk_drew ?_ | refine blk_alloc ?_ _)); refine blk_put (cs := #[.int .i64 ((rd_T33 l0 (ji34)).f0), .int .i64 ((rd_T33 l0 (ji34)).f1), .int .i64 0]) ?_ 2 _ rfl; (with_reducible repeat (first | refine blk_drewN ?_ _ | refine blk_drew ?_ | refine blk_alloc ?_ _)); refine blk_put (cs := #[.int .i64 ((rd_T33 l0 (ji34)).f0), .int .i64 0, .int .i64 0]) ?_ 1 _ rfl; (with_reducible repeat (first | refine blk_drewN ?_ _ | refine blk_drew ?_ | refine blk_alloc ?_ _)); refine blk_put (cs := #[.int .i64 0, .int .i64 0, .int .i64 0]) ?_ 0 _ rfl; (with_reducible repeat (first | refine blk_drewN ?_ _ | refine blk_drew ?_ | refine blk_alloc ?_ _)); exact BK200.out))⟩; have n3_ : Aside0 (Below w.heap.size w w40) := ⟨(by rw [hw]; exact (by repeat (first | (with_reducible first | exact HB.out | apply below_alloc | apply pw_below_drewN | apply below_drew1 | refine below_set ?_ GE200.out) | exact HB.out)))⟩; clear hw; clear HO_5; clear HO_8; clear BK200; clear HB; have HO_5 := n0_; have HO_8 := n1_; have BK200 := n2_; have HB := n3_; clear n0_ n1_ n2_ n3_; have hcz41_0 : w40.cell? ⟨gb200, 0, none⟩ = some (.int .i64 ((rd_T33 l0 (ji34)).f0)) := (blk_cell BK200.out 0).trans rfl; have hcz41_1 : w40.cell? ⟨gb200, 1, none⟩ = some (.int .i64 ((rd_T33 l0 (ji34)).f1)) := (blk_cell BK200.out 1).trans rfl; have hcz41_2 : w40.cell? ⟨gb200, 2, none⟩ = some (.int .i64 ((rd_T33 l0 (ji34)).f2)) := (blk_cell BK200.out 2).trans rfl; have hfz41_0 := blk_frozen BK200.out 0; have hfz41_1 := blk_frozen BK200.out 1; have hfz41_2 := blk_frozen BK200.out 2))
                    (try simp only [Act.put, List.setIfInBounds_toArray, List.set_cons_zero, List.set_cons_succ])
                    go_cut [] (fun wc => ∃ (kq : Nat), Aside0 (quarrellaw11_LangLast.j5 kq l0 l1 t186 x7_3 t194 ((rd_T33 l0 (ji34)).f0) ((rd_T33 l0 (ji34)).f1) ((rd_T33 l0 (ji34)).f2) = some r) ∧ Aside0 (kq ≤ kj27) ∧ Aside0 (Kd.R (Kd.int .i64) 2 wc w.heap.size (fun k_ => some k_ ≠ (v196 : Value).ownBlock) v188 t186) ∧ Aside0 (Kd.R (Kd.int .i64) 2 wc w.heap.size (fun k_ => some k_ ≠ (v188 : Value).ownBlock) v196 t194) ∧ Aside0 (wc.heap[gb200]? = some (.cells #[.int .i64 ((rd_T33 l0 (ji34)).f0), .int .i64 ((rd_T33 l0 (ji34)).f1), .int .i64 ((rd_T33 l0 (ji34)).f2)] 33 (0, 0))) ∧ Aside0 (Below w.heap.size w wc))
                    case first =>
                     have H := HC37.out
                     clear HC37
                     by_cases c42 : ((rd_T33 l0 (ji34)).f0) = 2
                     ·rw [if_pos c42] at H
                      have c42b0 : (((rd_T33 l0 (ji34)).f0) == 2) = true := beq_iff_eq.mpr c42
                      have c42b1 : (((rd_T33 l0 (ji34)).f0) != 2) = false := bne_eq_false_iff_eq.mpr c42
                      clear c42
                      (first | rw [c42b0] | (simp only [i64_w, i32_w]; rw [c42b0]) | skip)
                      have H' := Aside0.mk H
                      clear H
                      go_wp2
                      go_meet
                      case rel => exact ⟨_, H', ⟨by have := HJ4.out; have := HJ12.out; have := HK3.out; have := HJ21.out; have := HJ27.out; first | omega | exact Nat.le_refl _⟩, ⟨by (with_reducible repeat (first | apply Kd.R_alloc | apply Kd.R_drewN | apply Kd.R_drew)); exact HO_5.out⟩, ⟨by (with_reducible repeat (first | apply Kd.R_alloc | apply Kd.R_drewN | apply Kd.R_drew)); exact HO_8.out⟩, ⟨by (with_reducible repeat (first | refine blk_drewN ?_ _ | refine blk_drew ?_ | refine blk_alloc ?_ _)); exact BK200.out⟩, ⟨by repeat (first | (with_reducible first | exact HB.out | apply below_alloc | apply pw_below_drewN | apply below_drew1 | refine below_set ?_ GE200.out) | exact HB.out)⟩⟩
                     ·rw [if_neg c42] at H
                      have c42b0 : (((rd_T33 l0 (ji34)).f0) == 2) = false := beq_eq_false_iff_ne.mpr c42
                      have c42b1 : (((rd_T33 l0 (ji34)).f0) != 2) = true := bne_iff_ne.mpr c42
                      (first | rw [c42b0] | (simp only [i64_w, i32_w]; rw [c42b0]) | skip)
                      by_cases c43 : x7_3 > 1
                      ·rw [if_pos c43] at H
                       have c43b0 : decide (1 < x7_3) = true := decide_eq_true c43
                       clear c43
                       have c44b0 := eq_true (of_decide_eq_true (by first | (with_reducible assumption) | assumption) : 0 ≤ (ji34))
                       by_cases c45 : (ji34) ≤ (l0.length : Int)
                       ·rw [if_pos c45] at H
                        have c45b0 := eq_true c45
                        have c45b1 : decide ((ji34) ≤ (l0.length : Int)) = true := decide_eq_true c45
                        clear c45
                        obtain ⟨y201, hy201⟩ : ∃ y_ : List (S33), y_ = (l0.take ((ji34) : Int).toNat) := ⟨_, rfl⟩
                        replace H : ((lang_Alone.f y201 l1).bind fun bt205 => ((quarrelref01_Vals.f kj27 t194 bt205.1).bind fun t209 => (if t209 = true then (quarrellaw11_LangLast.j5 kj27 l0 l1 t186 x7_3 t194 ((rd_T33 l0 (ji34)).f0) ((rd_T33 l0 (ji34)).f1) ((rd_T33 l0 (ji34)).f2)) else (some false)))) = some r := by first | (rw [hy201]; with_reducible exact H) | (have H2_ := (Option.bind_some _ _).symm.trans H; rw [hy201]; with_reducible exact H2_) | (have H2_ := (Option.bind_some _ _).symm.trans H; with_reducible exact H2_) | with_reducible exact H | (rw [hy201]; exact H) | exact H
                        have Ny201 := Aside0.mk hy201
                        clear hy201
                        replace H := Option.bind_eq_some_iff.mp H
                        obtain ⟨⟨t205, t206⟩, A460, H⟩ := H
                        replace H : ((quarrelref01_Vals.f kj27 t194 t205).bind fun t209 => (if t209 = true then (quarrellaw11_LangLast.j5 kj27 l0 l1 t186 x7_3 t194 ((rd_T33 l0 (ji34)).f0) ((rd_T33 l0 (ji34)).f1) ((rd_T33 l0 (ji34)).f2)) else (some false))) = some r := H
                        have A46 := Aside0.mk A460
                        clear A460
                        replace H := Option.bind_eq_some_iff.mp H
                        obtain ⟨t209, A470, H⟩ := H
                        replace H : (if t209 = true then (quarrellaw11_LangLast.j5 kj27 l0 l1 t186 x7_3 t194 ((rd_T33 l0 (ji34)).f0) ((rd_T33 l0 (ji34)).f1) ((rd_T33 l0 (ji34)).f2)) else (some false)) = some r := H
                        have A47 := Aside0.mk A470
                        clear A470
                        by_cases c48 : t209 = true
                        ·subst c48
                         have H1 : (quarrellaw11_LangLast.j5 kj27 l0 l1 t186 x7_3 t194 ((rd_T33 l0 (ji34)).f0) ((rd_T33 l0 (ji34)).f1) ((rd_T33 l0 (ji34)).f2)) = some r := by rw [if_pos rfl] at H; exact H
                         clear H
                         have H := H1
                         clear H1
                         have H' := Aside0.mk H
                         clear H
                         have q49 : ((ji34) : Int) ≤ ((l0.length : Int) : Int) := of_decide_eq_true (by first | (with_reducible assumption) | assumption)
                         obtain ⟨i049, hi049, _, hsz49, _⟩ := info_parts info33
                         have hroom49 : l0.length ≤ c0 := HC0.out
                         have hC49 : Kd.C k33 _ (some ad199) l0.length l0 := HR0.out
                         (try clear hcut23)
                         have hcut49 := cut_to (P := Try.prog) 22 33 .i64 Try.underlying22 hi049 (some ad199) l0.length c0 (ji34) (of_decide_eq_true (by first | (with_reducible assumption) | assumption)) q49 hroom49
                         have hr49 := Kd.C_take (m := ((ji34) : Int).toNat) hC49 (by omega)
                         have hy49 : y201.length = ((ji34) : Int).toNat := (by rw [Ny201.out, List.length_take]; omega)
                         rw [← Ny201.out] at hr49
                         rw [← hy49] at hcut49
                         have HR204 := Aside0.mk hr49
                         have HC204 := Aside0.mk (show y201.length ≤ c0 from by omega)
                         clear hr49 hC49 hroom49 hi049 hsz49
                         have KY49 := Aside0.mk hy49
                         clear hy49
                         replace q49 := eq_true q49
                         go_wp2_with (first | ((with_reducible refine gate_callee (f := 11) rfl ?_); refine goesL_ (some 96) rfl rfl Try.func11 (by kernel_rfl) rfl #[.slice (some ad199) y201.length c0, .slice A1 l1.length c1] rfl (by (try simp only [List.map_toArray, List.map_cons, List.map_nil]); first | done | rfl | (simp only [List.length_drop, List.length_take]; rfl)) ?_; (with_reducible refine (lang_Alone.calls _ _ y201 _ _ l1 t205 t206 _ ?side1 ?side2 ?side3 ?side4 A46.out).mono ?_); (case side1 => repeat (first | exact (Kd.C_below HR204.out HB.out) | (with_reducible refine Kd.C_alloc ?_ _) | (with_reducible refine Kd.C_drewN ?_ _) | (with_reducible refine Kd.C_drew ?_))); (case side2 => exact HC204.out); (case side3 => repeat (first | exact (Kd.C_below HR1.out HB.out) | (with_reducible refine Kd.C_alloc ?_ _) | (with_reducible refine Kd.C_drewN ?_ _) | (with_reducible refine Kd.C_drew ?_))); (case side4 => exact HC1.out); rintro e w50 ⟨v207, rfl, ho0, hb⟩; refine ⟨_, rfl, ?_⟩; have n0_ := Aside0.mk (Kd.R_elder' (by (with_reducible repeat (first | apply Kd.R_alloc | apply Kd.R_drewN | apply Kd.R_drew)); exact HO_5.out) (Kd.R_base ho0) hb); have n1_ := Aside0.mk (Kd.R_elder' (by (with_reducible repeat (first | apply Kd.R_alloc | apply Kd.R_drewN | apply Kd.R_drew)); exact HO_8.out) (Kd.R_base ho0) hb); have n2_ := Aside0.mk (Kd.R_lower (Kd.R_new' (Kd.R_new' ho0 (Kd.R_lt (by (with_reducible repeat (first | apply Kd.R_alloc | apply Kd.R_drewN | apply Kd.R_drew)); exact HO_5.out))) (Kd.R_lt (by (with_reducible repeat (first | apply Kd.R_alloc | apply Kd.R_drewN | apply Kd.R_drew)); exact HO_8.out))) (below_size (by repeat (first | (with_reducible first | exact HB.out | apply below_alloc | apply pw_below_drewN | apply below_drew1 | refine below_set ?_ GE200.out) | exact HB.out)))); have n3_ := Aside0.mk (blk_below (g := gb200) (o := .cells #[.int .i64 ((rd_T33 l0 (ji34)).f0), .int .i64 ((rd_T33 l0 (ji34)).f1), .int .i64 ((rd_T33 l0 (ji34)).f2)] 33 (0, 0)) (by (with_reducible repeat (first | refine blk_drewN ?_ _ | refine blk_drew ?_ | refine blk_alloc ?_ _)); exact BK200.out) hb); have n4_ := Aside0.mk (below_step (by repeat (first | (with_reducible first | exact HB.out | apply below_alloc | apply pw_below_drewN | apply below_drew1 | refine below_set ?_ GE200.out) | exact HB.out)) hb); clear HO_5; clear HO_8; clear BK200; clear HB; have HO_5 := n0_; have HO_8 := n1_; have HO208 := n2_; have BK200 := n3_; have HB := n4_; clear n0_ n1_ n2_ n3_ n4_; (try clear hb); (try clear hb2); (try clear hk); (try clear hi); (try clear ho0); obtain ⟨Ao51, co51, eo51⟩ := Kd.R_slice HO_8.out; subst eo51; obtain ⟨Ao52, co52, eo52⟩ := Kd.R_slice HO208.out; subst eo52) | ((with_reducible refine gate_callee (f := 12) rfl ?_); refine goesL_ (some 101) rfl rfl Try.func12 (by kernel_rfl) rfl #[.slice Ao51 t194.length co51, .slice Ao52 t205.length co52] rfl (by (try simp only [List.map_toArray, List.map_cons, List.map_nil]); first | done | rfl | (simp only [List.length_drop, List.length_take]; rfl)) ?_; (with_reducible refine (quarrelref01_Vals.calls kj27 _ _ t194 _ _ t205 true _ ?side1 ?side2 ?side3 ?side4 A47.out).mono ?_); (case side1 => repeat (first | exact (Kd.R_reads' HO_8.out).2.2 | (with_reducible refine Kd.C_alloc ?_ _) | (with_reducible refine Kd.C_drewN ?_ _) | (with_reducible refine Kd.C_drew ?_))); (case side2 => exact (Kd.R_reads' HO_8.out).2.1); (case side3 => repeat (first | exact (Kd.R_reads' HO208.out).2.2 | (with_reducible refine Kd.C_alloc ?_ _) | (with_reducible refine Kd.C_drewN ?_ _) | (with_reducible refine Kd.C_drew ?_))); (case side4 => exact (Kd.R_reads' HO208.out).2.1); rintro e w' ⟨rfl, ⟨nd, rfl⟩⟩; refine ⟨_, rfl, ?_⟩))
                         go_meet
                         case rel => exact ⟨_, H', ⟨by have := HJ4.out; have := HJ12.out; have := HK3.out; have := HJ21.out; have := HJ27.out; first | omega | exact Nat.le_refl _⟩, ⟨by (with_reducible repeat (first | apply Kd.R_alloc | apply Kd.R_drewN | apply Kd.R_drew)); exact Kd.R_mono HO_5.out (fun _ hk => hk.1)⟩, ⟨by (with_reducible repeat (first | apply Kd.R_alloc | apply Kd.R_drewN | apply Kd.R_drew)); exact Kd.R_mono HO_8.out (fun _ hk => hk.1)⟩, ⟨by (with_reducible repeat (first | refine blk_drewN ?_ _ | refine blk_drew ?_ | refine blk_alloc ?_ _)); exact BK200.out⟩, ⟨by repeat (first | (with_reducible first | exact HB.out | apply below_alloc | apply pw_below_drewN | apply below_drew1 | refine below_set ?_ GE200.out) | exact HB.out)⟩⟩
                        ·replace c48 := Bool.eq_false_iff.mpr c48
                         subst c48
                         have H1 : (some false) = some r := by rw [if_neg (show ¬ (false = true) by decide)] at H; exact H
                         clear H
                         have H := H1
                         clear H1
                         obtain rfl := Option.some.inj H
                         have q53 : ((ji34) : Int) ≤ ((l0.length : Int) : Int) := of_decide_eq_true (by first | (with_reducible assumption) | assumption)
                         obtain ⟨i053, hi053, _, hsz53, _⟩ := info_parts info33
                         have hroom53 : l0.length ≤ c0 := HC0.out
                         have hC53 : Kd.C k33 _ (some ad199) l0.length l0 := HR0.out
                         (try clear hcut23)
                         (try clear hcut49)
                         have hcut53 := cut_to (P := Try.prog) 22 33 .i64 Try.underlying22 hi053 (some ad199) l0.length c0 (ji34) (of_decide_eq_true (by first | (with_reducible assumption) | assumption)) q53 hroom53
                         have hr53 := Kd.C_take (m := ((ji34) : Int).toNat) hC53 (by omega)
                         have hy53 : y201.length = ((ji34) : Int).toNat := (by rw [Ny201.out, List.length_take]; omega)
                         rw [← Ny201.out] at hr53
                         rw [← hy53] at hcut53
                         have HR204 := Aside0.mk hr53
                         have HC204 := Aside0.mk (show y201.length ≤ c0 from by omega)
                         clear hr53 hC53 hroom53 hi053 hsz53
                         have KY53 := Aside0.mk hy53
                         clear hy53
                         replace q53 := eq_true q53
                         go_wp2_with (first | ((with_reducible refine gate_callee (f := 11) rfl ?_); refine goesL_ (some 96) rfl rfl Try.func11 (by kernel_rfl) rfl #[.slice (some ad199) y201.length c0, .slice A1 l1.length c1] rfl (by (try simp only [List.map_toArray, List.map_cons, List.map_nil]); first | done | rfl | (simp only [List.length_drop, List.length_take]; rfl)) ?_; (with_reducible refine (lang_Alone.calls _ _ y201 _ _ l1 t205 t206 _ ?side1 ?side2 ?side3 ?side4 A46.out).mono ?_); (case side1 => repeat (first | exact (Kd.C_below HR204.out HB.out) | (with_reducible refine Kd.C_alloc ?_ _) | (with_reducible refine Kd.C_drewN ?_ _) | (with_reducible refine Kd.C_drew ?_))); (case side2 => exact HC204.out); (case side3 => repeat (first | exact (Kd.C_below HR1.out HB.out) | (with_reducible refine Kd.C_alloc ?_ _) | (with_reducible refine Kd.C_drewN ?_ _) | (with_reducible refine Kd.C_drew ?_))); (case side4 => exact HC1.out); rintro e w54 ⟨v207, rfl, ho0, hb⟩; refine ⟨_, rfl, ?_⟩; have n0_ := Aside0.mk (Kd.R_elder' (by (with_reducible repeat (first | apply Kd.R_alloc | apply Kd.R_drewN | apply Kd.R_drew)); exact HO_5.out) (Kd.R_base ho0) hb); have n1_ := Aside0.mk (Kd.R_elder' (by (with_reducible repeat (first | apply Kd.R_alloc | apply Kd.R_drewN | apply Kd.R_drew)); exact HO_8.out) (Kd.R_base ho0) hb); have n2_ := Aside0.mk (Kd.R_lower (Kd.R_new' (Kd.R_new' ho0 (Kd.R_lt (by (with_reducible repeat (first | apply Kd.R_alloc | apply Kd.R_drewN | apply Kd.R_drew)); exact HO_5.out))) (Kd.R_lt (by (with_reducible repeat (first | apply Kd.R_alloc | apply Kd.R_drewN | apply Kd.R_drew)); exact HO_8.out))) (below_size (by repeat (first | (with_reducible first | exact HB.out | apply below_alloc | apply pw_below_drewN | apply below_drew1 | refine below_set ?_ GE200.out) | exact HB.out)))); have n3_ := Aside0.mk (blk_below (g := gb200) (o := .cells #[.int .i64 ((rd_T33 l0 (ji34)).f0), .int .i64 ((rd_T33 l0 (ji34)).f1), .int .i64 ((rd_T33 l0 (ji34)).f2)] 33 (0, 0)) (by (with_reducible repeat (first | refine blk_drewN ?_ _ | refine blk_drew ?_ | refine blk_alloc ?_ _)); exact BK200.out) hb); have n4_ := Aside0.mk (below_step (by repeat (first | (with_reducible first | exact HB.out | apply below_alloc | apply pw_below_drewN | apply below_drew1 | refine below_set ?_ GE200.out) | exact HB.out)) hb); clear HO_5; clear HO_8; clear BK200; clear HB; have HO_5 := n0_; have HO_8 := n1_; have HO208 := n2_; have BK200 := n3_; have HB := n4_; clear n0_ n1_ n2_ n3_ n4_; (try clear hb); (try clear hb2); (try clear hk); (try clear hi); (try clear ho0); obtain ⟨Ao55, co55, eo55⟩ := Kd.R_slice HO_8.out; subst eo55; obtain ⟨Ao56, co56, eo56⟩ := Kd.R_slice HO208.out; subst eo56) | ((with_reducible refine gate_callee (f := 12) rfl ?_); refine goesL_ (some 101) rfl rfl Try.func12 (by kernel_rfl) rfl #[.slice Ao55 t194.length co55, .slice Ao56 t205.length co56] rfl (by (try simp only [List.map_toArray, List.map_cons, List.map_nil]); first | done | rfl | (simp only [List.length_drop, List.length_take]; rfl)) ?_; (with_reducible refine (quarrelref01_Vals.calls kj27 _ _ t194 _ _ t205 false _ ?side1 ?side2 ?side3 ?side4 A47.out).mono ?_); (case side1 => repeat (first | exact (Kd.R_reads' HO_8.out).2.2 | (with_reducible refine Kd.C_alloc ?_ _) | (with_reducible refine Kd.C_drewN ?_ _) | (with_reducible refine Kd.C_drew ?_))); (case side2 => exact (Kd.R_reads' HO_8.out).2.1); (case side3 => repeat (first | exact (Kd.R_reads' HO208.out).2.2 | (with_reducible refine Kd.C_alloc ?_ _) | (with_reducible refine Kd.C_drewN ?_ _) | (with_reducible refine Kd.C_drew ?_))); (case side4 => exact (Kd.R_reads' HO208.out).2.1); rintro e w' ⟨rfl, ⟨nd, rfl⟩⟩; refine ⟨_, rfl, ?_⟩))
                         go_ret
                         exact ⟨by first | rfl | (simp [errW_none, errW_some] <;> rfl) | (simp only [← hji34]; first | rfl | (simp [errW_none, errW_some] <;> rfl)) | (simp [*, errW_none, errW_some] <;> rfl), by repeat (first | (with_reducible first | exact HB.out | apply below_alloc | apply pw_below_drewN | apply below_drew1 | refine below_set ?_ GE200.out) | exact HB.out)⟩
                       ·rw [if_neg c45] at H
                        exact absurd H (by simp)
                      ·rw [if_neg c43] at H
                       have c43b0 : decide (1 < x7_3) = false := decide_eq_false c43
                       clear c43
                       replace H := Option.bind_eq_some_iff.mp H
                       obtain ⟨t210, A570, H⟩ := H
                       replace H : (if t210 = true then (quarrellaw11_LangLast.j5 kj27 l0 l1 t186 x7_3 t194 ((rd_T33 l0 (ji34)).f0) ((rd_T33 l0 (ji34)).f1) ((rd_T33 l0 (ji34)).f2)) else (some false)) = some r := H
                       have A57 := Aside0.mk A570
                       clear A570
                       by_cases c58 : t210 = true
                       ·subst c58
                        have H1 : (quarrellaw11_LangLast.j5 kj27 l0 l1 t186 x7_3 t194 ((rd_T33 l0 (ji34)).f0) ((rd_T33 l0 (ji34)).f1) ((rd_T33 l0 (ji34)).f2)) = some r := by rw [if_pos rfl] at H; exact H
                        clear H
                        have H := H1
                        clear H1
                        have H' := Aside0.mk H
                        clear H
                        obtain ⟨Ao59, co59, eo59⟩ := Kd.R_slice HO_8.out
                        subst eo59
                        go_wp2_with (first | ((with_reducible refine gate_callee (f := 12) rfl ?_); refine goesL_ (some 101) rfl rfl Try.func12 (by kernel_rfl) rfl #[.slice Ao59 t194.length co59, .slice A1 l1.length c1] rfl (by (try simp only [List.map_toArray, List.map_cons, List.map_nil]); first | done | rfl | (simp only [List.length_drop, List.length_take]; rfl)) ?_; (with_reducible refine (quarrelref01_Vals.calls kj27 _ _ t194 _ _ l1 true _ ?side1 ?side2 ?side3 ?side4 A57.out).mono ?_); (case side1 => repeat (first | exact (Kd.R_reads' HO_8.out).2.2 | (with_reducible refine Kd.C_alloc ?_ _) | (with_reducible refine Kd.C_drewN ?_ _) | (with_reducible refine Kd.C_drew ?_))); (case side2 => exact (Kd.R_reads' HO_8.out).2.1); (case side3 => repeat (first | exact (Kd.C_below HR1.out HB.out) | (with_reducible refine Kd.C_alloc ?_ _) | (with_reducible refine Kd.C_drewN ?_ _) | (with_reducible refine Kd.C_drew ?_))); (case side4 => exact HC1.out); rintro e w' ⟨rfl, ⟨nd, rfl⟩⟩; refine ⟨_, rfl, ?_⟩))
                        go_meet
                        case rel => exact ⟨_, H', ⟨by have := HJ4.out; have := HJ12.out; have := HK3.out; have := HJ21.out; have := HJ27.out; first | omega | exact Nat.le_refl _⟩, ⟨by (with_reducible repeat (first | apply Kd.R_alloc | apply Kd.R_drewN | apply Kd.R_drew)); exact HO_5.out⟩, ⟨by (with_reducible repeat (first | apply Kd.R_alloc | apply Kd.R_drewN | apply Kd.R_drew)); exact HO_8.out⟩, ⟨by (with_reducible repeat (first | refine blk_drewN ?_ _ | refine blk_drew ?_ | refine blk_alloc ?_ _)); exact BK200.out⟩, ⟨by repeat (first | (with_reducible first | exact HB.out | apply below_alloc | apply pw_below_drewN | apply below_drew1 | refine below_set ?_ GE200.out) | exact HB.out)⟩⟩
                       ·replace c58 := Bool.eq_false_iff.mpr c58
                        subst c58
                        have H1 : (some false) = some r := by rw [if_neg (show ¬ (false = true) by decide)] at H; exact H
                        clear H
                        have H := H1
                        clear H1
                        obtain rfl := Option.some.inj H
                        obtain ⟨Ao60, co60, eo60⟩ := Kd.R_slice HO_8.out
                        subst eo60
                        go_wp2_with (first | ((with_reducible refine gate_callee (f := 12) rfl ?_); refine goesL_ (some 101) rfl rfl Try.func12 (by kernel_rfl) rfl #[.slice Ao60 t194.length co60, .slice A1 l1.length c1] rfl (by (try simp only [List.map_toArray, List.map_cons, List.map_nil]); first | done | rfl | (simp only [List.length_drop, List.length_take]; rfl)) ?_; (with_reducible refine (quarrelref01_Vals.calls kj27 _ _ t194 _ _ l1 false _ ?side1 ?side2 ?side3 ?side4 A57.out).mono ?_); (case side1 => repeat (first | exact (Kd.R_reads' HO_8.out).2.2 | (with_reducible refine Kd.C_alloc ?_ _) | (with_reducible refine Kd.C_drewN ?_ _) | (with_reducible refine Kd.C_drew ?_))); (case side2 => exact (Kd.R_reads' HO_8.out).2.1); (case side3 => repeat (first | exact (Kd.C_below HR1.out HB.out) | (with_reducible refine Kd.C_alloc ?_ _) | (with_reducible refine Kd.C_drewN ?_ _) | (with_reducible refine Kd.C_drew ?_))); (case side4 => exact HC1.out); rintro e w' ⟨rfl, ⟨nd, rfl⟩⟩; refine ⟨_, rfl, ?_⟩))
                        go_ret
                        exact ⟨by first | rfl | (simp [errW_none, errW_some] <;> rfl) | (simp only [← hji34]; first | rfl | (simp [errW_none, errW_some] <;> rfl)) | (simp [*, errW_none, errW_some] <;> rfl), by repeat (first | (with_reducible first | exact HB.out | apply below_alloc | apply pw_below_drewN | apply below_drew1 | refine below_set ?_ GE200.out) | exact HB.out)⟩
                    case rest =>
                     clear HC37
                     try clear c1
                     try clear p1
                     try clear q1
                     try clear hx1
                     try clear c2
                     try clear p2
                     try clear q2
                     try clear c3
                     try clear c4
                     try clear q4
                     try clear c5
                     try clear q5
                     try clear p6
                     try clear c7
                     try clear c7b0
                     try clear c7b1
                     try clear c8
                     try clear c8b0
                     try clear c8b1
                     try clear c10
                     try clear c11
                     try clear c12
                     try clear c15
                     try clear c15b0
                     try clear c15b1
                     try clear c17
                     try clear c18
                     try clear c18b0
                     try clear c19
                     try clear c19b0
                     try clear c19b1
                     try clear p19
                     try clear q19
                     try clear hx19
                     try clear c20
                     try clear c20b0
                     try clear q23
                     try clear c25
                     try clear c25b0
                     try clear c25b1
                     try clear c27
                     try clear c29
                     try clear c29b0
                     try clear c29b1
                     try clear c33
                     try clear c35
                     try clear c35b0
                     try clear c36
                     try clear c36b0
                     try clear c42
                     try clear c42b0
                     try clear c42b1
                     try clear c43
                     try clear c43b0
                     try clear c44
                     try clear c44b0
                     try clear c45
                     try clear c45b0
                     try clear c45b1
                     try clear c48
                     try clear q49
                     try clear q53
                     try clear c58
                     try clear hcz39_0
                     try clear hcz39_1
                     try clear hcz39_2
                     try clear hcz41_0
                     try clear hcz41_1
                     try clear hcz41_2
                     try clear hfz39_0
                     try clear hfz39_1
                     try clear hfz39_2
                     try clear hfz41_0
                     try clear hfz41_1
                     try clear hfz41_2
                     try clear hx199_0
                     try clear hx199_1
                     try clear hx199_2
                     try clear p199
                     try clear p2
                     try clear q199
                     try clear q2
                     try clear q23
                     try clear q49
                     try clear q53
                     obtain ⟨kq, HA, HJ36, HO_5, HO_8, BK200, HB⟩ := hcut
                     cases kq with
                     | zero => exact absurd HA.out (by simp [quarrellaw11_LangLast.j5])
                     | succ kj36 =>
                      have H := HA.out
                      clear HA
                      simp only [quarrellaw11_LangLast.j5] at H
                      have HC61 := Aside0.mk H
                      clear H
                      go_upto_region 23 with (fail)
                      go_cut [109] (fun v109 wc => ∃ (kq : Nat) (x109_60 : Bool), v109 = .bool x109_60 ∧ Aside0 (quarrellaw11_LangLast.j6 kq l0 l1 t186 x7_3 t194 x109_60 ((rd_T33 l0 (ji34)).f0) ((rd_T33 l0 (ji34)).f1) ((rd_T33 l0 (ji34)).f2) = some r) ∧ Aside0 (kq ≤ kj36) ∧ Aside0 (Kd.R (Kd.int .i64) 2 wc w.heap.size (fun k_ => some k_ ≠ (v196 : Value).ownBlock) v188 t186) ∧ Aside0 (Kd.R (Kd.int .i64) 2 wc w.heap.size (fun k_ => some k_ ≠ (v188 : Value).ownBlock) v196 t194) ∧ Aside0 (wc.heap[gb200]? = some (.cells #[.int .i64 ((rd_T33 l0 (ji34)).f0), .int .i64 ((rd_T33 l0 (ji34)).f1), .int .i64 ((rd_T33 l0 (ji34)).f2)] 33 (0, 0))) ∧ Aside0 (Below w.heap.size w wc))
                      case first =>
                       have H := HC61.out
                       clear HC61
                       by_cases c62 : ((rd_T33 l0 (ji34)).f0) = 2
                       ·rw [if_pos c62] at H
                        have c62b0 : (((rd_T33 l0 (ji34)).f0) == 2) = true := beq_iff_eq.mpr c62
                        have c62b1 : (((rd_T33 l0 (ji34)).f0) != 2) = false := bne_eq_false_iff_eq.mpr c62
                        clear c62
                        (first | rw [c62b0] | (simp only [i64_w, i32_w]; rw [c62b0]) | skip)
                        have H' := Aside0.mk H
                        clear H
                        have hcz63_0 : wc.cell? ⟨gb200, 0, none⟩ = some (.int .i64 ((rd_T33 l0 (ji34)).f0)) := (blk_cell BK200.out 0).trans rfl
                        have hcz63_1 : wc.cell? ⟨gb200, 1, none⟩ = some (.int .i64 ((rd_T33 l0 (ji34)).f1)) := (blk_cell BK200.out 1).trans rfl
                        have hcz63_2 : wc.cell? ⟨gb200, 2, none⟩ = some (.int .i64 ((rd_T33 l0 (ji34)).f2)) := (blk_cell BK200.out 2).trans rfl
                        have hfz63_0 := blk_frozen BK200.out 0
                        have hfz63_1 := blk_frozen BK200.out 1
                        have hfz63_2 := blk_frozen BK200.out 2
                        go_wp2
                        go_meet
                        case rel => exact ⟨_, (decide (x7_3 < 7)), (by first | rfl | (simp; done) | (simp [*]; done)), H', ⟨by have := HJ4.out; have := HJ12.out; have := HK3.out; have := HJ21.out; have := HJ27.out; have := HJ36.out; first | omega | exact Nat.le_refl _⟩, ⟨by (with_reducible repeat (first | apply Kd.R_alloc | apply Kd.R_drewN | apply Kd.R_drew)); exact HO_5.out⟩, ⟨by (with_reducible repeat (first | apply Kd.R_alloc | apply Kd.R_drewN | apply Kd.R_drew)); exact HO_8.out⟩, ⟨by (with_reducible repeat (first | refine blk_drewN ?_ _ | refine blk_drew ?_ | refine blk_alloc ?_ _)); exact BK200.out⟩, ⟨by repeat (first | (with_reducible first | exact HB.out | apply below_alloc | apply pw_below_drewN | apply below_drew1 | refine below_set ?_ GE200.out) | exact HB.out)⟩⟩
                       ·rw [if_neg c62] at H
                        have c62b0 : (((rd_T33 l0 (ji34)).f0) == 2) = false := beq_eq_false_iff_ne.mpr c62
                        have c62b1 : (((rd_T33 l0 (ji34)).f0) != 2) = true := bne_iff_ne.mpr c62
                        (first | rw [c62b0] | (simp only [i64_w, i32_w]; rw [c62b0]) | skip)
                        have H' := Aside0.mk H
                        clear H
                        have hcz64_0 : wc.cell? ⟨gb200, 0, none⟩ = some (.int .i64 ((rd_T33 l0 (ji34)).f0)) := (blk_cell BK200.out 0).trans rfl
                        have hcz64_1 : wc.cell? ⟨gb200, 1, none⟩ = some (.int .i64 ((rd_T33 l0 (ji34)).f1)) := (blk_cell BK200.out 1).trans rfl
                        have hcz64_2 : wc.cell? ⟨gb200, 2, none⟩ = some (.int .i64 ((rd_T33 l0 (ji34)).f2)) := (blk_cell BK200.out 2).trans rfl
                        have hfz64_0 := blk_frozen BK200.out 0
                        have hfz64_1 := blk_frozen BK200.out 1
                        have hfz64_2 := blk_frozen BK200.out 2
                        go_wp2
                        go_meet
                        case rel => exact ⟨_, (false), (by first | rfl | (simp; done) | (simp [*]; done)), H', ⟨by have := HJ4.out; have := HJ12.out; have := HK3.out; have := HJ21.out; have := HJ27.out; have := HJ36.out; first | omega | exact Nat.le_refl _⟩, ⟨by (with_reducible repeat (first | apply Kd.R_alloc | apply Kd.R_drewN | apply Kd.R_drew)); exact HO_5.out⟩, ⟨by (with_reducible repeat (first | apply Kd.R_alloc | apply Kd.R_drewN | apply Kd.R_drew)); exact HO_8.out⟩, ⟨by (with_reducible repeat (first | refine blk_drewN ?_ _ | refine blk_drew ?_ | refine blk_alloc ?_ _)); exact BK200.out⟩, ⟨by repeat (first | (with_reducible first | exact HB.out | apply below_alloc | apply pw_below_drewN | apply below_drew1 | refine below_set ?_ GE200.out) | exact HB.out)⟩⟩
                      case rest =>
                       clear HC61
                       try clear c1
                       try clear p1
                       try clear q1
                       try clear hx1
                       try clear c2
                       try clear p2
                       try clear q2
                       try clear c3
                       try clear c4
                       try clear q4
                       try clear c5
                       try clear q5
                       try clear c6
                       try clear p6
                       try clear c7
                       try clear c7b0
                       try clear c7b1
                       try clear c8
                       try clear c8b0
                       try clear c8b1
                       try clear c10
                       try clear c11
                       try clear c12
                       try clear c15
                       try clear c15b0
                       try clear c15b1
                       try clear c17
                       try clear c18
                       try clear c18b0
                       try clear c19
                       try clear c19b0
                       try clear c19b1
                       try clear p19
                       try clear q19
                       try clear hx19
                       try clear c20
                       try clear c20b0
                       try clear q23
                       try clear c25
                       try clear c25b0
                       try clear c25b1
                       try clear c27
                       try clear c29
                       try clear c29b0
                       try clear c29b1
                       try clear c33
                       try clear c35
                       try clear c35b0
                       try clear c36
                       try clear c36b0
                       try clear c42
                       try clear c42b0
                       try clear c42b1
                       try clear c43
                       try clear c43b0
                       try clear c44
                       try clear c44b0
                       try clear c45
                       try clear c45b0
                       try clear c45b1
                       try clear c48
                       try clear q49
                       try clear q53
                       try clear c58
                       try clear c62
                       try clear c62b0
                       try clear c62b1
                       try clear p64
                       try clear hcz39_0
                       try clear hcz39_1
                       try clear hcz39_2
                       try clear hcz41_0
                       try clear hcz41_1
                       try clear hcz41_2
                       try clear hcz63_0
                       try clear hcz63_1
                       try clear hcz63_2
                       try clear hcz64_0
                       try clear hcz64_1
                       try clear hcz64_2
                       try clear hfz39_0
                       try clear hfz39_1
                       try clear hfz39_2
                       try clear hfz41_0
                       try clear hfz41_1
                       try clear hfz41_2
                       try clear hfz63_0
                       try clear hfz63_1
                       try clear hfz63_2
                       try clear hfz64_0
                       try clear hfz64_1
                       try clear hfz64_2
                       try clear hx199_0
                       try clear hx199_1
                       try clear hx199_2
                       try clear p1
                       try clear p19
                       try clear p199
                       try clear p2
                       try clear p6
                       try clear q1
                       try clear q19
                       try clear q199
                       try clear q2
                       try clear q23
                       try clear q4
                       try clear q49
                       try clear q5
                       try clear q53
                       obtain ⟨kq, x109_60, rfl, HA, HJ60, HO_5, HO_8, BK200, HB⟩ := hcut
                       cases kq with
                       | zero => exact absurd HA.out (by simp [quarrellaw11_LangLast.j6])
                       | succ kj60 =>
                        have H := HA.out
                        clear HA
                        simp only [quarrellaw11_LangLast.j6] at H
                        by_cases c65 : x109_60 = true
                        ·subst c65
                         have H1 : ((some (([] : List (S33)) : List (S33))).bind fun y211 => (if 0 ≤ x7_3 then (if x7_3 ≤ (l0.length : Int) then ((some (l0.take (x7_3 : Int).toNat : List (S33))).bind fun y214 => (if y211.length + y214.length < 5864062014805 then ((some (y211 ++ y214 : List (S33))).bind fun y218 => ((some (([(⟨3, 0, 3⟩ : S33), (⟨1, ((rd_T33 l0 (ji34)).f1), 0⟩ : S33)] : List (S33)) : List (S33))).bind fun y221 => (if y218.length + y221.length < 5864062014805 then ((lang_Alone.f (y218 ++ y221) l1).bind fun bt227 => (if bt227.2 = 0 then ((quarrelref01_Vals.f kj60 bt227.1 t194).bind fun t231 => (if t231 = true then (quarrellaw11_LangLast.l0 kj60 l0 l1 t186 (wrap64 (x7_3 + 1))) else (some false))) else (some false))) else (none)))) else (none))) else (none)) else (none))) = some r := by rw [if_pos rfl] at H; exact H
                         clear H
                         have H := H1
                         clear H1
                         obtain ⟨y211, hy211⟩ : ∃ y_ : List (S33), y_ = (([] : List (S33))) := ⟨_, rfl⟩
                         replace H : (if 0 ≤ x7_3 then (if x7_3 ≤ (l0.length : Int) then ((some (l0.take (x7_3 : Int).toNat : List (S33))).bind fun y214 => (if y211.length + y214.length < 5864062014805 then ((some (y211 ++ y214 : List (S33))).bind fun y218 => ((some (([(⟨3, 0, 3⟩ : S33), (⟨1, ((rd_T33 l0 (ji34)).f1), 0⟩ : S33)] : List (S33)) : List (S33))).bind fun y221 => (if y218.length + y221.length < 5864062014805 then ((lang_Alone.f (y218 ++ y221) l1).bind fun bt227 => (if bt227.2 = 0 then ((quarrelref01_Vals.f kj60 bt227.1 t194).bind fun t231 => (if t231 = true then (quarrellaw11_LangLast.l0 kj60 l0 l1 t186 (wrap64 (x7_3 + 1))) else (some false))) else (some false))) else (none)))) else (none))) else (none)) else (none)) = some r := by first | (rw [hy211]; with_reducible exact H) | (have H2_ := (Option.bind_some _ _).symm.trans H; rw [hy211]; with_reducible exact H2_) | (have H2_ := (Option.bind_some _ _).symm.trans H; with_reducible exact H2_) | with_reducible exact H | (rw [hy211]; exact H) | exact H
                         have Ny211 := Aside0.mk hy211
                         clear hy211
                         by_cases c66 : 0 ≤ x7_3
                         ·rw [if_pos c66] at H
                          have c66b0 := eq_true c66
                          have c66b1 : decide (0 ≤ x7_3) = true := decide_eq_true c66
                          clear c66
                          by_cases c67 : x7_3 ≤ (l0.length : Int)
                          ·rw [if_pos c67] at H
                           have c67b0 := eq_true c67
                           have c67b1 : decide (x7_3 ≤ (l0.length : Int)) = true := decide_eq_true c67
                           clear c67
                           obtain ⟨y214, hy214⟩ : ∃ y_ : List (S33), y_ = (l0.take (x7_3 : Int).toNat) := ⟨_, rfl⟩
                           replace H : (if y211.length + y214.length < 5864062014805 then ((some (y211 ++ y214 : List (S33))).bind fun y218 => ((some (([(⟨3, 0, 3⟩ : S33), (⟨1, ((rd_T33 l0 (ji34)).f1), 0⟩ : S33)] : List (S33)) : List (S33))).bind fun y221 => (if y218.length + y221.length < 5864062014805 then ((lang_Alone.f (y218 ++ y221) l1).bind fun bt227 => (if bt227.2 = 0 then ((quarrelref01_Vals.f kj60 bt227.1 t194).bind fun t231 => (if t231 = true then (quarrellaw11_LangLast.l0 kj60 l0 l1 t186 (wrap64 (x7_3 + 1))) else (some false))) else (some false))) else (none)))) else (none)) = some r := by first | (rw [hy214]; with_reducible exact H) | (have H2_ := (Option.bind_some _ _).symm.trans H; rw [hy214]; with_reducible exact H2_) | (have H2_ := (Option.bind_some _ _).symm.trans H; with_reducible exact H2_) | with_reducible exact H | (rw [hy214]; exact H) | exact H
                           have Ny214 := Aside0.mk hy214
                           clear hy214
                           by_cases c68 : y211.length + y214.length < 5864062014805
                           ·rw [if_pos c68] at H
                            have LMc68 := Aside0.mk c68
                            clear c68
                            obtain ⟨y218, hy218⟩ : ∃ y_ : List (S33), y_ = (y211 ++ y214) := ⟨_, rfl⟩
                            replace H : ((some (([(⟨3, 0, 3⟩ : S33), (⟨1, ((rd_T33 l0 (ji34)).f1), 0⟩ : S33)] : List (S33)) : List (S33))).bind fun y221 => (if y218.length + y221.length < 5864062014805 then ((lang_Alone.f (y218 ++ y221) l1).bind fun bt227 => (if bt227.2 = 0 then ((quarrelref01_Vals.f kj60 bt227.1 t194).bind fun t231 => (if t231 = true then (quarrellaw11_LangLast.l0 kj60 l0 l1 t186 (wrap64 (x7_3 + 1))) else (some false))) else (some false))) else (none))) = some r := by first | (rw [hy218]; with_reducible exact H) | (have H2_ := (Option.bind_some _ _).symm.trans H; rw [hy218]; with_reducible exact H2_) | (have H2_ := (Option.bind_some _ _).symm.trans H; with_reducible exact H2_) | with_reducible exact H | (rw [hy218]; exact H) | exact H
                            have Ny218 := Aside0.mk hy218
                            clear hy218
                            obtain ⟨y221, hy221⟩ : ∃ y_ : List (S33), y_ = (([(⟨3, 0, 3⟩ : S33), (⟨1, ((rd_T33 l0 (ji34)).f1), 0⟩ : S33)] : List (S33))) := ⟨_, rfl⟩
                            replace H : (if y218.length + y221.length < 5864062014805 then ((lang_Alone.f (y218 ++ y221) l1).bind fun bt227 => (if bt227.2 = 0 then ((quarrelref01_Vals.f kj60 bt227.1 t194).bind fun t231 => (if t231 = true then (quarrellaw11_LangLast.l0 kj60 l0 l1 t186 (wrap64 (x7_3 + 1))) else (some false))) else (some false))) else (none)) = some r := by first | (rw [hy221]; with_reducible exact H) | (have H2_ := (Option.bind_some _ _).symm.trans H; rw [hy221]; with_reducible exact H2_) | (have H2_ := (Option.bind_some _ _).symm.trans H; with_reducible exact H2_) | with_reducible exact H | (rw [hy221]; exact H) | exact H
                            have Ny221 := Aside0.mk hy221
                            clear hy221
                            by_cases c69 : y218.length + y221.length < 5864062014805
                            ·rw [if_pos c69] at H
                             have LMc69 := Aside0.mk c69
                             clear c69
                             obtain ⟨y224, hy224⟩ : ∃ y_ : List (S33), y_ = (y218 ++ y221) := ⟨_, rfl⟩
                             replace H : ((lang_Alone.f y224 l1).bind fun bt227 => (if bt227.2 = 0 then ((quarrelref01_Vals.f kj60 bt227.1 t194).bind fun t231 => (if t231 = true then (quarrellaw11_LangLast.l0 kj60 l0 l1 t186 (wrap64 (x7_3 + 1))) else (some false))) else (some false))) = some r := by first | (rw [hy224]; with_reducible exact H) | (have H2_ := (Option.bind_some _ _).symm.trans H; rw [hy224]; with_reducible exact H2_) | (have H2_ := (Option.bind_some _ _).symm.trans H; with_reducible exact H2_) | with_reducible exact H | (rw [hy224]; exact H) | exact H
                             have Ny224 := Aside0.mk hy224
                             clear hy224
                             replace H := Option.bind_eq_some_iff.mp H
                             obtain ⟨⟨t227, t228⟩, A700, H⟩ := H
                             replace H : (if t228 = 0 then ((quarrelref01_Vals.f kj60 t227 t194).bind fun t231 => (if t231 = true then (quarrellaw11_LangLast.l0 kj60 l0 l1 t186 (wrap64 (x7_3 + 1))) else (some false))) else (some false)) = some r := H
                             have A70 := Aside0.mk A700
                             clear A700
                             by_cases c71 : t228 = 0
                             ·rw [if_pos c71] at H
                              have c71b0 : (t228 == 0) = true := beq_iff_eq.mpr c71
                              have c71b1 : (t228 != 0) = false := bne_eq_false_iff_eq.mpr c71
                              clear c71
                              replace H := Option.bind_eq_some_iff.mp H
                              obtain ⟨t231, A720, H⟩ := H
                              replace H : (if t231 = true then (quarrellaw11_LangLast.l0 kj60 l0 l1 t186 (wrap64 (x7_3 + 1))) else (some false)) = some r := H
                              have A72 := Aside0.mk A720
                              clear A720
                              by_cases c73 : t231 = true
                              ·subst c73
                               have H1 : (quarrellaw11_LangLast.l0 kj60 l0 l1 t186 (wrap64 (x7_3 + 1))) = some r := by rw [if_pos rfl] at H; exact H
                               clear H
                               have H := H1
                               clear H1
                               have H' := Aside0.mk H
                               clear H
                               try go_wp2
                               have n0_ := Aside0.mk (Kd.R_drew HO_5.out)
                               have n1_ := Aside0.mk (Kd.R_drew HO_8.out)
                               have n2_ := Aside0.mk (blk_drew BK200.out)
                               have n3_ := Aside0.mk (below_drew1 HB.out)
                               clear HO_5
                               clear HO_8
                               clear BK200
                               clear HB
                               have HO_5 := n0_
                               have HO_8 := n1_
                               have BK200 := n2_
                               have HB := n3_
                               clear n0_ n1_ n2_ n3_
                               have q75 : (x7_3 : Int) ≤ ((l0.length : Int) : Int) := of_decide_eq_true (by first | (with_reducible assumption) | assumption)
                               obtain ⟨i075, hi075, _, hsz75, _⟩ := info_parts info33
                               have hroom75 : l0.length ≤ c0 := HC0.out
                               have hC75 : Kd.C k33 _ (some ad199) l0.length l0 := HR0.out
                               (try clear hcut23)
                               (try clear hcut49)
                               (try clear hcut53)
                               have hcut75 := cut_to (P := Try.prog) 22 33 .i64 Try.underlying22 hi075 (some ad199) l0.length c0 x7_3 (of_decide_eq_true (by first | (with_reducible assumption) | assumption)) q75 hroom75
                               have hr75 := Kd.C_take (m := (x7_3 : Int).toNat) hC75 (by omega)
                               have hy75 : y214.length = (x7_3 : Int).toNat := (by rw [Ny214.out, List.length_take]; omega)
                               rw [← Ny214.out] at hr75
                               rw [← hy75] at hcut75
                               have HR217 := Aside0.mk hr75
                               have HC217 := Aside0.mk (show y214.length ≤ c0 from by omega)
                               clear hr75 hC75 hroom75 hi075 hsz75
                               have KY75 := Aside0.mk hy75
                               clear hy75
                               replace q75 := eq_true q75
                               refine start_ (n := 18) (S := fun w' => w'.cell? ⟨gb200, 0, none⟩ = some (.int .i64 ((rd_T33 l0 (ji34)).f0)) ∧ w'.cell? ⟨gb200, 1, none⟩ = some (.int .i64 ((rd_T33 l0 (ji34)).f1)) ∧ w'.cell? ⟨gb200, 2, none⟩ = some (.int .i64 ((rd_T33 l0 (ji34)).f2))) (ds := []) #[false, false, false, false, false, false, false, false, false, false, false, false, false, false, false, false, false, false] (by kernel_rfl) rfl rfl ⟨(blk_cell BK200.out 0).trans rfl, (blk_cell BK200.out 1).trans rfl, (blk_cell BK200.out 2).trans rfl⟩ (fun hHeld => ?_); refine with_tabW quarrellaw11_LangLast.tab24 quarrellaw11_LangLast.bits24 (fun HT_ HW_ => ?_)
                               generalize wc.drew = w74 at HO_5 HO_8 BK200 HB HR217 hHeld ⊢
                               refine pure_ (i := 1) (N := some 112) (v := ?_) (a' := ?_) #[false, true, false, false, false, false, false, false, false, false, false, false, false, false, false, false, false, false] rfl rfl (any_of HT_.out (by kernel_rfl)) (fun _ _ _ h => h) (Or.inl ⟨by rfl, ?_⟩) ?_ ?_
                               rotate_left
                               ·intro w'
                                go_simp
                                with_reducible rfl
                               rotate_left
                               ·simp only [Act.put, List.setIfInBounds_toArray, List.set_cons_zero, List.set_cons_succ, i64_w, i32_w]
                                rfl
                               refine pure_ (i := 2) (N := some 113) (v := ?_) (a' := ?_) #[false, true, true, false, false, false, false, false, false, false, false, false, false, false, false, false, false, false] rfl rfl (any_of HT_.out (by kernel_rfl)) (fun _ _ _ h => h) (Or.inl ⟨by rfl, ?_⟩) ?_ ?_
                               rotate_left
                               ·intro w'
                                go_simp
                                with_reducible rfl
                               rotate_left
                               ·simp only [Act.put, List.setIfInBounds_toArray, List.set_cons_zero, List.set_cons_succ, i64_w, i32_w]
                                rfl
                               refine pure_ (i := 3) (N := some 114) (v := ?_) (a' := ?_) #[false, true, true, true, false, false, false, false, false, false, false, false, false, false, false, false, false, false] rfl rfl (any_of HT_.out (by kernel_rfl)) (fun _ _ _ h => h) (Or.inl ⟨by rfl, ?_⟩) ?_ ?_
                               rotate_left
                               ·intro w'
                                go_simp
                                with_reducible rfl
                               rotate_left
                               ·simp only [Act.put, List.setIfInBounds_toArray, List.set_cons_zero, List.set_cons_succ, i64_w, i32_w]
                                rfl
                               refine pure_ (i := 5) (N := some 116) (v := ?_) (a' := ?_) #[false, true, true, true, false, true, false, false, false, false, false, false, false, false, false, false, false, false] rfl rfl (any_of HT_.out (by kernel_rfl)) (fun _ _ _ h => h) (Or.inl ⟨by rfl, ?_⟩) ?_ ?_
                               rotate_left
                               ·intro w'
                                go_simp
                                with_reducible rfl
                               rotate_left
                               ·simp only [Act.put, List.setIfInBounds_toArray, List.set_cons_zero, List.set_cons_succ, i64_w, i32_w]
                                rfl
                               refine pure_ (i := 6) (N := some 117) (v := ?_) (a' := ?_) #[false, true, true, true, false, true, true, false, false, false, false, false, false, false, false, false, false, false] rfl rfl (any_of HT_.out (by kernel_rfl)) (fun _ _ _ h => h) (Or.inl ⟨by rfl, ?_⟩) ?_ ?_
                               rotate_left
                               ·intro w'
                                go_simp
                                with_reducible rfl
                               rotate_left
                               ·simp only [Act.put, List.setIfInBounds_toArray, List.set_cons_zero, List.set_cons_succ, i64_w, i32_w]
                                rfl
                               refine pure_ (i := 11) (N := some 122) (v := ?_) (a' := ?_) #[false, true, true, true, false, true, true, false, false, false, false, true, false, false, false, false, false, false] rfl rfl (any_of HT_.out (by kernel_rfl)) (fun _ _ _ h => h) (Or.inl ⟨by rfl, ?_⟩) ?_ ?_
                               rotate_left
                               ·intro w'
                                go_simp
                                with_reducible rfl
                               rotate_left
                               ·simp only [Act.put, List.setIfInBounds_toArray, List.set_cons_zero, List.set_cons_succ, i64_w, i32_w]
                                rfl
                               refine take_ (i := 7) (N := some 118) (v := ?_) (a' := ?_) #[false, true, true, true, false, true, true, true, false, false, false, true, false, false, false, false, false, false] rfl rfl (take_ofW HT_.out HW_.out (by kernel_rfl)) (fun _ _ _ h => h) (Or.inl ⟨by rfl, ?_⟩) hHeld ?_ ?_
                               rotate_left
                               ·rintro w' ⟨s0, s1, s2⟩
                                go_simp
                                with_reducible rfl
                               rotate_left
                               ·simp only [Act.put, List.setIfInBounds_toArray, List.set_cons_zero, List.set_cons_succ, i64_w, i32_w]
                                rfl
                               refine pure_ (i := 8) (N := some 119) (v := ?_) (a' := ?_) #[false, true, true, true, false, true, true, true, true, false, false, true, false, false, false, false, false, false] rfl rfl (any_of HT_.out (by kernel_rfl)) (fun _ _ _ h => h) (Or.inl ⟨by rfl, ?_⟩) ?_ ?_
                               rotate_left
                               ·intro w'
                                go_simp
                                with_reducible rfl
                               rotate_left
                               ·simp only [Act.put, List.setIfInBounds_toArray, List.set_cons_zero, List.set_cons_succ, i64_w, i32_w]
                                rfl
                               refine join_ (σ := Value × Value × Value) 7 #[true, true, true, true, true, true, true, true, true, true, false, true, false, false, false, false, false, false] (fun s_ => [(111, s_.1), (115, s_.2.1), (120, s_.2.2)]) (fun s_ w' => (w'.cell? ⟨gb200, 0, none⟩ = some (.int .i64 ((rd_T33 l0 (ji34)).f0)) ∧ w'.cell? ⟨gb200, 1, none⟩ = some (.int .i64 ((rd_T33 l0 (ji34)).f1)) ∧ w'.cell? ⟨gb200, 2, none⟩ = some (.int .i64 ((rd_T33 l0 (ji34)).f2))) ∧ (Kd.R k33 33 w' w.heap.size (fun k_ => some k_ ≠ (s_.2.2 : Value).ownBlock ∧ k_ ≠ gb200) s_.2.1 y218) ∧ (Kd.R k33 33 w' w.heap.size (fun k_ => some k_ ≠ (s_.2.1 : Value).ownBlock ∧ k_ ≠ gb200) s_.2.2 y221) ∧ (Kd.R (Kd.int .i64) 2 w' w.heap.size (fun k_ => some k_ ≠ (v196 : Value).ownBlock) v188 t186) ∧ (Kd.R (Kd.int .i64) 2 w' w.heap.size (fun k_ => some k_ ≠ (v188 : Value).ownBlock) v196 t194) ∧ (w'.heap[gb200]? = some (.cells #[.int .i64 ((rd_T33 l0 (ji34)).f0), .int .i64 ((rd_T33 l0 (ji34)).f1), .int .i64 ((rd_T33 l0 (ji34)).f2)] 33 (0, 0))) ∧ (Below w.heap.size w w')) ?_ ?_
                               rotate_left
                               ·intro hCont
                                refine two_ (i := 0) (j := 9) (Ni := some 111) (Nj := some 120) #[true, true, true, true, false, true, true, true, true, false, false, true, false, false, false, false, false, false] #[false, true, true, true, false, true, true, true, true, true, false, true, false, false, false, false, false, false] rfl rfl rfl rfl (two_of HT_.out (by kernel_rfl)) (by decide) (by decide) (fun K hK => ?_) (fun K hK => ?_)
                                ·skip
                                 refine Kd.R_lit_step k33 _ 33 ?hg (N := 111) ?hd (xs := ([] : List (S33))) (inner := []) (ok := fun _ => True) (okp := fun _ => True) ?hr ?hp (fun _ hk => hk) trivial (Below.refl _ _) (Nat.le_refl _) (by simp) ?_; (case hd => rfl); (case hg => rfl); (case hr => first | (go_simp; done) | (go_simp; rfl)); (case hp => exact (Reps.none _ _))
                                 intro v212 w76 ho77 hb hg_ hnew_
                                 clear hg_ hnew_
                                 (first | rw [← Ny211.out] at ho77 | (simp only [Int.reduceToNat] at ho77; rw [← Ny211.out] at ho77))
                                 have n0_ := Aside0.mk (Kd.R_below (by (with_reducible repeat (first | apply Kd.R_alloc | apply Kd.R_drewN | apply Kd.R_drew)); exact HO_5.out) hb)
                                 have n1_ := Aside0.mk (Kd.R_below (by (with_reducible repeat (first | apply Kd.R_alloc | apply Kd.R_drewN | apply Kd.R_drew)); exact HO_8.out) hb)
                                 have n2_ := Aside0.mk (Kd.R_lower (Kd.R_newB ho77 (g := gb200) (o := .cells #[.int .i64 ((rd_T33 l0 (ji34)).f0), .int .i64 ((rd_T33 l0 (ji34)).f1), .int .i64 ((rd_T33 l0 (ji34)).f2)] 33 (0, 0)) (by (with_reducible repeat (first | refine blk_drewN ?_ _ | refine blk_drew ?_ | refine blk_alloc ?_ _)); exact BK200.out)) (below_size (by repeat (first | (with_reducible first | exact HB.out | apply below_alloc | apply pw_below_drewN | apply below_drew1 | refine below_set ?_ GE200.out) | exact HB.out))))
                                 have n3_ := Aside0.mk (blk_below (g := gb200) (o := .cells #[.int .i64 ((rd_T33 l0 (ji34)).f0), .int .i64 ((rd_T33 l0 (ji34)).f1), .int .i64 ((rd_T33 l0 (ji34)).f2)] 33 (0, 0)) (by (with_reducible repeat (first | refine blk_drewN ?_ _ | refine blk_drew ?_ | refine blk_alloc ?_ _)); exact BK200.out) hb)
                                 have n4_ := Aside0.mk (below_step (by repeat (first | (with_reducible first | exact HB.out | apply below_alloc | apply pw_below_drewN | apply below_drew1 | refine below_set ?_ GE200.out) | exact HB.out)) hb)
                                 clear HO_5
                                 clear HO_8
                                 clear BK200
                                 clear HB
                                 have HO_5 := n0_
                                 have HO_8 := n1_
                                 have HO213 := n2_
                                 have BK200 := n3_
                                 have HB := n4_
                                 clear n0_ n1_ n2_ n3_ n4_
                                 clear hb ho77
                                 refine hK.out _ _ ⟨(blk_cell BK200.out 0).trans rfl, (blk_cell BK200.out 1).trans rfl, (blk_cell BK200.out 2).trans rfl⟩ (fun hHeld => ?_)
                                 clear hK K
                                 refine norm_ (a' := ?_) ?_ ?_
                                 rotate_left
                                 ·show Act.put _ (some 111) _ = _
                                  simp only [Act.put, List.setIfInBounds_toArray, List.set_cons_zero, List.set_cons_succ, i64_w, i32_w]
                                  rfl
                                 refine two_ (i := 4) (j := 9) (Ni := some 115) (Nj := some 120) #[true, true, true, true, true, true, true, true, true, false, false, true, false, false, false, false, false, false] #[true, true, true, true, false, true, true, true, true, true, false, true, false, false, false, false, false, false] rfl rfl rfl rfl (two_of HT_.out (by kernel_rfl)) (by decide) (by decide) (fun K hK => ?_) (fun K hK => ?_)
                                 ·skip
                                  refine Kd.R_append_rows_step k33 (w0 := w) w.heap.size (by rfl) (.tmp 111) (.tmp 114) 22 33 (.agg #[(.int .i64 0), (.int .i64 0), (.int .i64 0)]) 24 rfl Try.underlying22 info33 rfl (by decide) (by omega) v212 y211 y214 _ _ _ (fun k_ => k_ ≠ gb200) (fun _ => False) rfl rfl ?aO ?aR (fun _ _ h => h) (fun _ h => h.elim) ?aF ?aB ?aS ?aL ?_
                                  (case aR => repeat (first | exact (Kd.C_below HR217.out HB.out) | (with_reducible refine Kd.C_alloc ?_ _) | (with_reducible refine Kd.C_drewN ?_ _) | (with_reducible refine Kd.C_drew ?_)))
                                  (case aB => exact (by repeat (first | (with_reducible first | exact HB.out | apply below_alloc | apply pw_below_drewN | apply below_drew1 | refine below_set ?_ GE200.out) | exact HB.out)))
                                  (case aF => exact (fun k_ hk => Kd.freshB (g := gb200) (o := .cells #[.int .i64 ((rd_T33 l0 (ji34)).f0), .int .i64 ((rd_T33 l0 (ji34)).f1), .int .i64 ((rd_T33 l0 (ji34)).f2)] 33 (0, 0)) (by (with_reducible repeat (first | refine blk_drewN ?_ _ | refine blk_drew ?_ | refine blk_alloc ?_ _)); exact BK200.out) k_ hk))
                                  (case aO => exact (by (with_reducible repeat (first | apply Kd.R_alloc | apply Kd.R_drewN | apply Kd.R_drew)); exact Kd.R_mono HO213.out (fun _ hk => hk.2)))
                                  (case aS => exact (below_size (by repeat (first | (with_reducible first | exact HB.out | apply below_alloc | apply pw_below_drewN | apply below_drew1 | refine below_set ?_ GE200.out) | exact HB.out))))
                                  (case aL => have := LMc68.out; omega)
                                  intro v219 w78 ho hb hg hat
                                  rw [← Ny218.out] at ho
                                  have n0_ := Aside0.mk (Kd.R_over' (by (with_reducible repeat (first | apply Kd.R_alloc | apply Kd.R_drewN | apply Kd.R_drew)); exact HO_5.out) (Kd.R_typed (by (with_reducible repeat (first | apply Kd.R_alloc | apply Kd.R_drewN | apply Kd.R_drew)); exact HO213.out)) (by decide) hg)
                                  have n1_ := Aside0.mk (Kd.R_over' (by (with_reducible repeat (first | apply Kd.R_alloc | apply Kd.R_drewN | apply Kd.R_drew)); exact HO_8.out) (Kd.R_typed (by (with_reducible repeat (first | apply Kd.R_alloc | apply Kd.R_drewN | apply Kd.R_drew)); exact HO213.out)) (by decide) hg)
                                  have n2_ := Aside0.mk (blk_grown (g := gb200) (o := .cells #[.int .i64 ((rd_T33 l0 (ji34)).f0), .int .i64 ((rd_T33 l0 (ji34)).f1), .int .i64 ((rd_T33 l0 (ji34)).f2)] 33 (0, 0)) (by (with_reducible repeat (first | refine blk_drewN ?_ _ | refine blk_drew ?_ | refine blk_alloc ?_ _)); exact BK200.out) hg (Kd.R_away HO213.out (fun _ hk => hk.2)))
                                  have n3_ := Aside0.mk (hb)
                                  have n4_ := Aside0.mk (ho)
                                  clear HO_5
                                  clear HO_8
                                  clear BK200
                                  clear HB
                                  clear HO213
                                  have HO_5 := n0_
                                  have HO_8 := n1_
                                  have BK200 := n2_
                                  have HB := n3_
                                  have HO220 := n4_
                                  clear n0_ n1_ n2_ n3_ n4_
                                  clear ho hb hg hat
                                  refine hK.out _ _ ⟨(blk_cell BK200.out 0).trans rfl, (blk_cell BK200.out 1).trans rfl, (blk_cell BK200.out 2).trans rfl⟩ (fun hHeld => ?_)
                                  clear hK K
                                  refine norm_ (a' := ?_) ?_ ?_
                                  rotate_left
                                  ·show Act.put _ (some 115) _ = _
                                   simp only [Act.put, List.setIfInBounds_toArray, List.set_cons_zero, List.set_cons_succ, i64_w, i32_w]
                                   rfl
                                  refine one_ (i := 9) (N := some 120) #[true, true, true, true, true, true, true, true, true, true, false, true, false, false, false, false, false, false] rfl rfl (one_of HT_.out (by kernel_rfl)) (by decide) (fun K hK => ?_)
                                  refine Kd.R_lit_step k33 _ 33 ?hg (N := 120) ?hd (xs := ([(⟨3, 0, 3⟩ : S33), (⟨1, ((rd_T33 l0 (ji34)).f1), 0⟩ : S33)] : List (S33))) (inner := [.int .i64 3, .int .i64 0, .int .i64 3, .int .i64 1, .int .i64 ((rd_T33 l0 (ji34)).f1), .int .i64 0]) (ok := fun _ => True) (okp := fun _ => True) ?hr ?hp (fun _ hk => hk) trivial (Below.refl _ _) (Nat.le_refl _) (by simp) ?_; (case hd => rfl); (case hg => rfl); (case hr => first | (go_simp; done) | (go_simp; rfl)); (case hp => exact (Reps.c3 (show Kd.M k33 _ _ _ (⟨3, 0, 3⟩ : S33) [.int .i64 3, .int .i64 0, .int .i64 3] from (k33_mkM _ _ _ (⟨3, 0, 3⟩ : S33) )) (Reps.c3 (show Kd.M k33 _ _ _ (⟨1, ((rd_T33 l0 (ji34)).f1), 0⟩ : S33) [.int .i64 1, .int .i64 ((rd_T33 l0 (ji34)).f1), .int .i64 0] from (k33_mkM _ _ _ (⟨1, ((rd_T33 l0 (ji34)).f1), 0⟩ : S33) )) (Reps.none _ _))))
                                  intro v222 w79 ho80 hb hg_ hnew_
                                  clear hg_ hnew_
                                  (first | rw [← Ny221.out] at ho80 | (simp only [Int.reduceToNat] at ho80; rw [← Ny221.out] at ho80))
                                  have n0_ := Aside0.mk (Kd.R_below (by (with_reducible repeat (first | apply Kd.R_alloc | apply Kd.R_drewN | apply Kd.R_drew)); exact HO_5.out) hb)
                                  have n1_ := Aside0.mk (Kd.R_below (by (with_reducible repeat (first | apply Kd.R_alloc | apply Kd.R_drewN | apply Kd.R_drew)); exact HO_8.out) hb)
                                  have n2_ := Aside0.mk (Kd.R_elder' (by (with_reducible repeat (first | apply Kd.R_alloc | apply Kd.R_drewN | apply Kd.R_drew)); exact HO220.out) (Kd.R_base ho80) hb)
                                  have n3_ := Aside0.mk (Kd.R_lower (Kd.R_newB (Kd.R_new' ho80 (Kd.R_lt (by (with_reducible repeat (first | apply Kd.R_alloc | apply Kd.R_drewN | apply Kd.R_drew)); exact HO220.out))) (g := gb200) (o := .cells #[.int .i64 ((rd_T33 l0 (ji34)).f0), .int .i64 ((rd_T33 l0 (ji34)).f1), .int .i64 ((rd_T33 l0 (ji34)).f2)] 33 (0, 0)) (by (with_reducible repeat (first | refine blk_drewN ?_ _ | refine blk_drew ?_ | refine blk_alloc ?_ _)); exact BK200.out)) (below_size (by repeat (first | (with_reducible first | exact HB.out | apply below_alloc | apply pw_below_drewN | apply below_drew1 | refine below_set ?_ GE200.out) | exact HB.out))))
                                  have n4_ := Aside0.mk (blk_below (g := gb200) (o := .cells #[.int .i64 ((rd_T33 l0 (ji34)).f0), .int .i64 ((rd_T33 l0 (ji34)).f1), .int .i64 ((rd_T33 l0 (ji34)).f2)] 33 (0, 0)) (by (with_reducible repeat (first | refine blk_drewN ?_ _ | refine blk_drew ?_ | refine blk_alloc ?_ _)); exact BK200.out) hb)
                                  have n5_ := Aside0.mk (below_step (by repeat (first | (with_reducible first | exact HB.out | apply below_alloc | apply pw_below_drewN | apply below_drew1 | refine below_set ?_ GE200.out) | exact HB.out)) hb)
                                  clear HO_5
                                  clear HO_8
                                  clear HO220
                                  clear BK200
                                  clear HB
                                  have HO_5 := n0_
                                  have HO_8 := n1_
                                  have HO220 := n2_
                                  have HO223 := n3_
                                  have BK200 := n4_
                                  have HB := n5_
                                  clear n0_ n1_ n2_ n3_ n4_ n5_
                                  clear hb ho80
                                  refine hK.out _ _ ⟨(blk_cell BK200.out 0).trans rfl, (blk_cell BK200.out 1).trans rfl, (blk_cell BK200.out 2).trans rfl⟩ (fun hHeld => ?_)
                                  clear hK K
                                  refine norm_ (a' := ?_) ?_ ?_
                                  rotate_left
                                  ·show Act.put _ (some 120) _ = _
                                   simp only [Act.put, List.setIfInBounds_toArray, List.set_cons_zero, List.set_cons_succ, i64_w, i32_w]
                                   rfl
                                  exact norm_ (by simp only [putAll, Act.put, List.setIfInBounds_toArray, List.set_cons_zero, List.set_cons_succ]) (hCont (v212, v219, v222) _ ⟨hHeld, (by (with_reducible repeat (first | apply Kd.R_alloc | apply Kd.R_drewN | apply Kd.R_drew)); exact Kd.R_mono HO220.out (fun _ hk => ⟨hk.2, hk.1⟩)), (by (with_reducible repeat (first | apply Kd.R_alloc | apply Kd.R_drewN | apply Kd.R_drew)); exact Kd.R_mono HO223.out (fun _ hk => ⟨hk.1.2, hk.2⟩)), (by (with_reducible repeat (first | apply Kd.R_alloc | apply Kd.R_drewN | apply Kd.R_drew)); exact HO_5.out), (by (with_reducible repeat (first | apply Kd.R_alloc | apply Kd.R_drewN | apply Kd.R_drew)); exact HO_8.out), (by (with_reducible repeat (first | refine blk_drewN ?_ _ | refine blk_drew ?_ | refine blk_alloc ?_ _)); exact BK200.out), (by repeat (first | (with_reducible first | exact HB.out | apply below_alloc | apply pw_below_drewN | apply below_drew1 | refine below_set ?_ GE200.out) | exact HB.out))⟩)
                                 ·skip
                                  refine Kd.R_lit_step k33 _ 33 ?hg (N := 120) ?hd (xs := ([(⟨3, 0, 3⟩ : S33), (⟨1, ((rd_T33 l0 (ji34)).f1), 0⟩ : S33)] : List (S33))) (inner := [.int .i64 3, .int .i64 0, .int .i64 3, .int .i64 1, .int .i64 ((rd_T33 l0 (ji34)).f1), .int .i64 0]) (ok := fun _ => True) (okp := fun _ => True) ?hr ?hp (fun _ hk => hk) trivial (Below.refl _ _) (Nat.le_refl _) (by simp) ?_; (case hd => rfl); (case hg => rfl); (case hr => first | (go_simp; done) | (go_simp; rfl)); (case hp => exact (Reps.c3 (show Kd.M k33 _ _ _ (⟨3, 0, 3⟩ : S33) [.int .i64 3, .int .i64 0, .int .i64 3] from (k33_mkM _ _ _ (⟨3, 0, 3⟩ : S33) )) (Reps.c3 (show Kd.M k33 _ _ _ (⟨1, ((rd_T33 l0 (ji34)).f1), 0⟩ : S33) [.int .i64 1, .int .i64 ((rd_T33 l0 (ji34)).f1), .int .i64 0] from (k33_mkM _ _ _ (⟨1, ((rd_T33 l0 (ji34)).f1), 0⟩ : S33) )) (Reps.none _ _))))
                                  intro v222 w78 ho79 hb hg_ hnew_
                                  clear hg_ hnew_
                                  (first | rw [← Ny221.out] at ho79 | (simp only [Int.reduceToNat] at ho79; rw [← Ny221.out] at ho79))
                                  have n0_ := Aside0.mk (Kd.R_below (by (with_reducible repeat (first | apply Kd.R_alloc | apply Kd.R_drewN | apply Kd.R_drew)); exact HO_5.out) hb)
                                  have n1_ := Aside0.mk (Kd.R_below (by (with_reducible repeat (first | apply Kd.R_alloc | apply Kd.R_drewN | apply Kd.R_drew)); exact HO_8.out) hb)
                                  have n2_ := Aside0.mk (Kd.R_elder' (by (with_reducible repeat (first | apply Kd.R_alloc | apply Kd.R_drewN | apply Kd.R_drew)); exact HO213.out) (Kd.R_base ho79) hb)
                                  have n3_ := Aside0.mk (Kd.R_lower (Kd.R_newB (Kd.R_new' ho79 (Kd.R_lt (by (with_reducible repeat (first | apply Kd.R_alloc | apply Kd.R_drewN | apply Kd.R_drew)); exact HO213.out))) (g := gb200) (o := .cells #[.int .i64 ((rd_T33 l0 (ji34)).f0), .int .i64 ((rd_T33 l0 (ji34)).f1), .int .i64 ((rd_T33 l0 (ji34)).f2)] 33 (0, 0)) (by (with_reducible repeat (first | refine blk_drewN ?_ _ | refine blk_drew ?_ | refine blk_alloc ?_ _)); exact BK200.out)) (below_size (by repeat (first | (with_reducible first | exact HB.out | apply below_alloc | apply pw_below_drewN | apply below_drew1 | refine below_set ?_ GE200.out) | exact HB.out))))
                                  have n4_ := Aside0.mk (blk_below (g := gb200) (o := .cells #[.int .i64 ((rd_T33 l0 (ji34)).f0), .int .i64 ((rd_T33 l0 (ji34)).f1), .int .i64 ((rd_T33 l0 (ji34)).f2)] 33 (0, 0)) (by (with_reducible repeat (first | refine blk_drewN ?_ _ | refine blk_drew ?_ | refine blk_alloc ?_ _)); exact BK200.out) hb)
                                  have n5_ := Aside0.mk (below_step (by repeat (first | (with_reducible first | exact HB.out | apply below_alloc | apply pw_below_drewN | apply below_drew1 | refine below_set ?_ GE200.out) | exact HB.out)) hb)
                                  clear HO_5
                                  clear HO_8
                                  clear HO213
                                  clear BK200
                                  clear HB
                                  have HO_5 := n0_
                                  have HO_8 := n1_
                                  have HO213 := n2_
                                  have HO223 := n3_
                                  have BK200 := n4_
                                  have HB := n5_
                                  clear n0_ n1_ n2_ n3_ n4_ n5_
                                  clear hb ho79
                                  refine hK.out _ _ ⟨(blk_cell BK200.out 0).trans rfl, (blk_cell BK200.out 1).trans rfl, (blk_cell BK200.out 2).trans rfl⟩ (fun hHeld => ?_)
                                  clear hK K
                                  refine norm_ (a' := ?_) ?_ ?_
                                  rotate_left
                                  ·show Act.put _ (some 120) _ = _
                                   simp only [Act.put, List.setIfInBounds_toArray, List.set_cons_zero, List.set_cons_succ, i64_w, i32_w]
                                   rfl
                                  refine one_ (i := 4) (N := some 115) #[true, true, true, true, true, true, true, true, true, true, false, true, false, false, false, false, false, false] rfl rfl (one_of HT_.out (by kernel_rfl)) (by decide) (fun K hK => ?_)
                                  refine Kd.R_append_rows_step k33 (w0 := w) w.heap.size (by rfl) (.tmp 111) (.tmp 114) 22 33 (.agg #[(.int .i64 0), (.int .i64 0), (.int .i64 0)]) 24 rfl Try.underlying22 info33 rfl (by decide) (by omega) v212 y211 y214 _ _ _ (fun k_ => some k_ ≠ (v222 : Value).ownBlock ∧ k_ ≠ gb200) (fun _ => False) rfl rfl ?aO ?aR (fun _ _ h => h) (fun _ h => h.elim) ?aF ?aB ?aS ?aL ?_
                                  (case aR => repeat (first | exact (Kd.C_below HR217.out HB.out) | (with_reducible refine Kd.C_alloc ?_ _) | (with_reducible refine Kd.C_drewN ?_ _) | (with_reducible refine Kd.C_drew ?_)))
                                  (case aB => exact (by repeat (first | (with_reducible first | exact HB.out | apply below_alloc | apply pw_below_drewN | apply below_drew1 | refine below_set ?_ GE200.out) | exact HB.out)))
                                  (case aF => exact (fun k_ hk => ⟨Kd.fresh' (Kd.R_lt (by (with_reducible repeat (first | apply Kd.R_alloc | apply Kd.R_drewN | apply Kd.R_drew)); exact HO223.out)) k_ hk, Kd.freshB (g := gb200) (o := .cells #[.int .i64 ((rd_T33 l0 (ji34)).f0), .int .i64 ((rd_T33 l0 (ji34)).f1), .int .i64 ((rd_T33 l0 (ji34)).f2)] 33 (0, 0)) (by (with_reducible repeat (first | refine blk_drewN ?_ _ | refine blk_drew ?_ | refine blk_alloc ?_ _)); exact BK200.out) k_ hk⟩))
                                  (case aO => exact (by (with_reducible repeat (first | apply Kd.R_alloc | apply Kd.R_drewN | apply Kd.R_drew)); exact Kd.R_mono HO213.out (fun _ hk => ⟨hk.2, hk.1.2⟩)))
                                  (case aS => exact (below_size (by repeat (first | (with_reducible first | exact HB.out | apply below_alloc | apply pw_below_drewN | apply below_drew1 | refine below_set ?_ GE200.out) | exact HB.out))))
                                  (case aL => have := LMc68.out; omega)
                                  intro v219 w80 ho hb hg hat
                                  rw [← Ny218.out] at ho
                                  have n0_ := Aside0.mk (Kd.R_over' (by (with_reducible repeat (first | apply Kd.R_alloc | apply Kd.R_drewN | apply Kd.R_drew)); exact HO_5.out) (Kd.R_typed (by (with_reducible repeat (first | apply Kd.R_alloc | apply Kd.R_drewN | apply Kd.R_drew)); exact HO213.out)) (by decide) hg)
                                  have n1_ := Aside0.mk (Kd.R_over' (by (with_reducible repeat (first | apply Kd.R_alloc | apply Kd.R_drewN | apply Kd.R_drew)); exact HO_8.out) (Kd.R_typed (by (with_reducible repeat (first | apply Kd.R_alloc | apply Kd.R_drewN | apply Kd.R_drew)); exact HO213.out)) (by decide) hg)
                                  have n2_ := Aside0.mk (blk_grown (g := gb200) (o := .cells #[.int .i64 ((rd_T33 l0 (ji34)).f0), .int .i64 ((rd_T33 l0 (ji34)).f1), .int .i64 ((rd_T33 l0 (ji34)).f2)] 33 (0, 0)) (by (with_reducible repeat (first | refine blk_drewN ?_ _ | refine blk_drew ?_ | refine blk_alloc ?_ _)); exact BK200.out) hg (Kd.R_away HO213.out (fun _ hk => hk.1.2)))
                                  have n3_ := Aside0.mk (Kd.R_after (ok := (fun k_ => k_ ≠ gb200)) (by (with_reducible repeat (first | apply Kd.R_alloc | apply Kd.R_drewN | apply Kd.R_drew)); exact Kd.R_mono HO223.out (fun _ hk => ⟨hk.2, hk.1.2⟩)) hg hat)
                                  have n4_ := Aside0.mk (hb)
                                  have n5_ := Aside0.mk (ho)
                                  clear HO_5
                                  clear HO_8
                                  clear BK200
                                  clear HO223
                                  clear HB
                                  clear HO213
                                  have HO_5 := n0_
                                  have HO_8 := n1_
                                  have BK200 := n2_
                                  have HO223 := n3_
                                  have HB := n4_
                                  have HO220 := n5_
                                  clear n0_ n1_ n2_ n3_ n4_ n5_
                                  clear ho hb hg hat
                                  refine hK.out _ _ ⟨(blk_cell BK200.out 0).trans rfl, (blk_cell BK200.out 1).trans rfl, (blk_cell BK200.out 2).trans rfl⟩ (fun hHeld => ?_)
                                  clear hK K
                                  refine norm_ (a' := ?_) ?_ ?_
                                  rotate_left
                                  ·show Act.put _ (some 115) _ = _
                                   simp only [Act.put, List.setIfInBounds_toArray, List.set_cons_zero, List.set_cons_succ, i64_w, i32_w]
                                   rfl
                                  exact norm_ (by simp only [putAll, Act.put, List.setIfInBounds_toArray, List.set_cons_zero, List.set_cons_succ]) (hCont (v212, v219, v222) _ ⟨hHeld, (by (with_reducible repeat (first | apply Kd.R_alloc | apply Kd.R_drewN | apply Kd.R_drew)); exact HO220.out), (by (with_reducible repeat (first | apply Kd.R_alloc | apply Kd.R_drewN | apply Kd.R_drew)); exact Kd.R_mono HO223.out (fun _ hk => ⟨hk.2, hk.1⟩)), (by (with_reducible repeat (first | apply Kd.R_alloc | apply Kd.R_drewN | apply Kd.R_drew)); exact HO_5.out), (by (with_reducible repeat (first | apply Kd.R_alloc | apply Kd.R_drewN | apply Kd.R_drew)); exact HO_8.out), (by (with_reducible repeat (first | refine blk_drewN ?_ _ | refine blk_drew ?_ | refine blk_alloc ?_ _)); exact BK200.out), (by repeat (first | (with_reducible first | exact HB.out | apply below_alloc | apply pw_below_drewN | apply below_drew1 | refine below_set ?_ GE200.out) | exact HB.out))⟩)
                                ·skip
                                 refine Kd.R_lit_step k33 _ 33 ?hg (N := 120) ?hd (xs := ([(⟨3, 0, 3⟩ : S33), (⟨1, ((rd_T33 l0 (ji34)).f1), 0⟩ : S33)] : List (S33))) (inner := [.int .i64 3, .int .i64 0, .int .i64 3, .int .i64 1, .int .i64 ((rd_T33 l0 (ji34)).f1), .int .i64 0]) (ok := fun _ => True) (okp := fun _ => True) ?hr ?hp (fun _ hk => hk) trivial (Below.refl _ _) (Nat.le_refl _) (by simp) ?_; (case hd => rfl); (case hg => rfl); (case hr => first | (go_simp; done) | (go_simp; rfl)); (case hp => exact (Reps.c3 (show Kd.M k33 _ _ _ (⟨3, 0, 3⟩ : S33) [.int .i64 3, .int .i64 0, .int .i64 3] from (k33_mkM _ _ _ (⟨3, 0, 3⟩ : S33) )) (Reps.c3 (show Kd.M k33 _ _ _ (⟨1, ((rd_T33 l0 (ji34)).f1), 0⟩ : S33) [.int .i64 1, .int .i64 ((rd_T33 l0 (ji34)).f1), .int .i64 0] from (k33_mkM _ _ _ (⟨1, ((rd_T33 l0 (ji34)).f1), 0⟩ : S33) )) (Reps.none _ _))))
                                 intro v222 w76 ho77 hb hg_ hnew_
                                 clear hg_ hnew_
                                 (first | rw [← Ny221.out] at ho77 | (simp only [Int.reduceToNat] at ho77; rw [← Ny221.out] at ho77))
                                 have n0_ := Aside0.mk (Kd.R_below (by (with_reducible repeat (first | apply Kd.R_alloc | apply Kd.R_drewN | apply Kd.R_drew)); exact HO_5.out) hb)
                                 have n1_ := Aside0.mk (Kd.R_below (by (with_reducible repeat (first | apply Kd.R_alloc | apply Kd.R_drewN | apply Kd.R_drew)); exact HO_8.out) hb)
                                 have n2_ := Aside0.mk (Kd.R_lower (Kd.R_newB ho77 (g := gb200) (o := .cells #[.int .i64 ((rd_T33 l0 (ji34)).f0), .int .i64 ((rd_T33 l0 (ji34)).f1), .int .i64 ((rd_T33 l0 (ji34)).f2)] 33 (0, 0)) (by (with_reducible repeat (first | refine blk_drewN ?_ _ | refine blk_drew ?_ | refine blk_alloc ?_ _)); exact BK200.out)) (below_size (by repeat (first | (with_reducible first | exact HB.out | apply below_alloc | apply pw_below_drewN | apply below_drew1 | refine below_set ?_ GE200.out) | exact HB.out))))
                                 have n3_ := Aside0.mk (blk_below (g := gb200) (o := .cells #[.int .i64 ((rd_T33 l0 (ji34)).f0), .int .i64 ((rd_T33 l0 (ji34)).f1), .int .i64 ((rd_T33 l0 (ji34)).f2)] 33 (0, 0)) (by (with_reducible repeat (first | refine blk_drewN ?_ _ | refine blk_drew ?_ | refine blk_alloc ?_ _)); exact BK200.out) hb)
                                 have n4_ := Aside0.mk (below_step (by repeat (first | (with_reducible first | exact HB.out | apply below_alloc | apply pw_below_drewN | apply below_drew1 | refine below_set ?_ GE200.out) | exact HB.out)) hb)
                                 clear HO_5
                                 clear HO_8
                                 clear BK200
                                 clear HB
                                 have HO_5 := n0_
                                 have HO_8 := n1_
                                 have HO223 := n2_
                                 have BK200 := n3_
                                 have HB := n4_
                                 clear n0_ n1_ n2_ n3_ n4_
                                 clear hb ho77
                                 refine hK.out _ _ ⟨(blk_cell BK200.out 0).trans rfl, (blk_cell BK200.out 1).trans rfl, (blk_cell BK200.out 2).trans rfl⟩ (fun hHeld => ?_)
                                 clear hK K
                                 refine norm_ (a' := ?_) ?_ ?_
                                 rotate_left
                                 ·show Act.put _ (some 120) _ = _
                                  simp only [Act.put, List.setIfInBounds_toArray, List.set_cons_zero, List.set_cons_succ, i64_w, i32_w]
                                  rfl
                                 refine one_ (i := 0) (N := some 111) #[true, true, true, true, false, true, true, true, true, true, false, true, false, false, false, false, false, false] rfl rfl (one_of HT_.out (by kernel_rfl)) (by decide) (fun K hK => ?_)
                                 refine Kd.R_lit_step k33 _ 33 ?hg (N := 111) ?hd (xs := ([] : List (S33))) (inner := []) (ok := fun _ => True) (okp := fun _ => True) ?hr ?hp (fun _ hk => hk) trivial (Below.refl _ _) (Nat.le_refl _) (by simp) ?_; (case hd => rfl); (case hg => rfl); (case hr => first | (go_simp; done) | (go_simp; rfl)); (case hp => exact (Reps.none _ _))
                                 intro v212 w78 ho79 hb hg_ hnew_
                                 clear hg_ hnew_
                                 (first | rw [← Ny211.out] at ho79 | (simp only [Int.reduceToNat] at ho79; rw [← Ny211.out] at ho79))
                                 have n0_ := Aside0.mk (Kd.R_below (by (with_reducible repeat (first | apply Kd.R_alloc | apply Kd.R_drewN | apply Kd.R_drew)); exact HO_5.out) hb)
                                 have n1_ := Aside0.mk (Kd.R_below (by (with_reducible repeat (first | apply Kd.R_alloc | apply Kd.R_drewN | apply Kd.R_drew)); exact HO_8.out) hb)
                                 have n2_ := Aside0.mk (Kd.R_elder' (by (with_reducible repeat (first | apply Kd.R_alloc | apply Kd.R_drewN | apply Kd.R_drew)); exact HO223.out) (Kd.R_base ho79) hb)
                                 have n3_ := Aside0.mk (Kd.R_lower (Kd.R_newB (Kd.R_new' ho79 (Kd.R_lt (by (with_reducible repeat (first | apply Kd.R_alloc | apply Kd.R_drewN | apply Kd.R_drew)); exact HO223.out))) (g := gb200) (o := .cells #[.int .i64 ((rd_T33 l0 (ji34)).f0), .int .i64 ((rd_T33 l0 (ji34)).f1), .int .i64 ((rd_T33 l0 (ji34)).f2)] 33 (0, 0)) (by (with_reducible repeat (first | refine blk_drewN ?_ _ | refine blk_drew ?_ | refine blk_alloc ?_ _)); exact BK200.out)) (below_size (by repeat (first | (with_reducible first | exact HB.out | apply below_alloc | apply pw_below_drewN | apply below_drew1 | refine below_set ?_ GE200.out) | exact HB.out))))
                                 have n4_ := Aside0.mk (blk_below (g := gb200) (o := .cells #[.int .i64 ((rd_T33 l0 (ji34)).f0), .int .i64 ((rd_T33 l0 (ji34)).f1), .int .i64 ((rd_T33 l0 (ji34)).f2)] 33 (0, 0)) (by (with_reducible repeat (first | refine blk_drewN ?_ _ | refine blk_drew ?_ | refine blk_alloc ?_ _)); exact BK200.out) hb)
                                 have n5_ := Aside0.mk (below_step (by repeat (first | (with_reducible first | exact HB.out | apply below_alloc | apply pw_below_drewN | apply below_drew1 | refine below_set ?_ GE200.out) | exact HB.out)) hb)
                                 clear HO_5
                                 clear HO_8
                                 clear HO223
                                 clear BK200
                                 clear HB
                                 have HO_5 := n0_
                                 have HO_8 := n1_
                                 have HO223 := n2_
                                 have HO213 := n3_
                                 have BK200 := n4_
                                 have HB := n5_
                                 clear n0_ n1_ n2_ n3_ n4_ n5_
                                 clear hb ho79
                                 refine hK.out _ _ ⟨(blk_cell BK200.out 0).trans rfl, (blk_cell BK200.out 1).trans rfl, (blk_cell BK200.out 2).trans rfl⟩ (fun hHeld => ?_)
                                 clear hK K
                                 refine norm_ (a' := ?_) ?_ ?_
                                 rotate_left
                                 ·show Act.put _ (some 111) _ = _
                                  simp only [Act.put, List.setIfInBounds_toArray, List.set_cons_zero, List.set_cons_succ, i64_w, i32_w]
                                  rfl
                                 refine one_ (i := 4) (N := some 115) #[true, true, true, true, true, true, true, true, true, true, false, true, false, false, false, false, false, false] rfl rfl (one_of HT_.out (by kernel_rfl)) (by decide) (fun K hK => ?_)
                                 refine Kd.R_append_rows_step k33 (w0 := w) w.heap.size (by rfl) (.tmp 111) (.tmp 114) 22 33 (.agg #[(.int .i64 0), (.int .i64 0), (.int .i64 0)]) 24 rfl Try.underlying22 info33 rfl (by decide) (by omega) v212 y211 y214 _ _ _ (fun k_ => some k_ ≠ (v222 : Value).ownBlock ∧ k_ ≠ gb200) (fun _ => False) rfl rfl ?aO ?aR (fun _ _ h => h) (fun _ h => h.elim) ?aF ?aB ?aS ?aL ?_
                                 (case aR => repeat (first | exact (Kd.C_below HR217.out HB.out) | (with_reducible refine Kd.C_alloc ?_ _) | (with_reducible refine Kd.C_drewN ?_ _) | (with_reducible refine Kd.C_drew ?_)))
                                 (case aB => exact (by repeat (first | (with_reducible first | exact HB.out | apply below_alloc | apply pw_below_drewN | apply below_drew1 | refine below_set ?_ GE200.out) | exact HB.out)))
                                 (case aF => exact (fun k_ hk => ⟨Kd.fresh' (Kd.R_lt (by (with_reducible repeat (first | apply Kd.R_alloc | apply Kd.R_drewN | apply Kd.R_drew)); exact HO223.out)) k_ hk, Kd.freshB (g := gb200) (o := .cells #[.int .i64 ((rd_T33 l0 (ji34)).f0), .int .i64 ((rd_T33 l0 (ji34)).f1), .int .i64 ((rd_T33 l0 (ji34)).f2)] 33 (0, 0)) (by (with_reducible repeat (first | refine blk_drewN ?_ _ | refine blk_drew ?_ | refine blk_alloc ?_ _)); exact BK200.out) k_ hk⟩))
                                 (case aO => exact (by (with_reducible repeat (first | apply Kd.R_alloc | apply Kd.R_drewN | apply Kd.R_drew)); exact Kd.R_mono HO213.out (fun _ hk => ⟨hk.1.2, hk.2⟩)))
                                 (case aS => exact (below_size (by repeat (first | (with_reducible first | exact HB.out | apply below_alloc | apply pw_below_drewN | apply below_drew1 | refine below_set ?_ GE200.out) | exact HB.out))))
                                 (case aL => have := LMc68.out; omega)
                                 intro v219 w80 ho hb hg hat
                                 rw [← Ny218.out] at ho
                                 have n0_ := Aside0.mk (Kd.R_over' (by (with_reducible repeat (first | apply Kd.R_alloc | apply Kd.R_drewN | apply Kd.R_drew)); exact HO_5.out) (Kd.R_typed (by (with_reducible repeat (first | apply Kd.R_alloc | apply Kd.R_drewN | apply Kd.R_drew)); exact HO213.out)) (by decide) hg)
                                 have n1_ := Aside0.mk (Kd.R_over' (by (with_reducible repeat (first | apply Kd.R_alloc | apply Kd.R_drewN | apply Kd.R_drew)); exact HO_8.out) (Kd.R_typed (by (with_reducible repeat (first | apply Kd.R_alloc | apply Kd.R_drewN | apply Kd.R_drew)); exact HO213.out)) (by decide) hg)
                                 have n2_ := Aside0.mk (blk_grown (g := gb200) (o := .cells #[.int .i64 ((rd_T33 l0 (ji34)).f0), .int .i64 ((rd_T33 l0 (ji34)).f1), .int .i64 ((rd_T33 l0 (ji34)).f2)] 33 (0, 0)) (by (with_reducible repeat (first | refine blk_drewN ?_ _ | refine blk_drew ?_ | refine blk_alloc ?_ _)); exact BK200.out) hg (Kd.R_away HO213.out (fun _ hk => hk.2)))
                                 have n3_ := Aside0.mk (Kd.R_after (ok := (fun k_ => k_ ≠ gb200)) (by (with_reducible repeat (first | apply Kd.R_alloc | apply Kd.R_drewN | apply Kd.R_drew)); exact Kd.R_mono HO223.out (fun _ hk => ⟨hk.1.2, hk.2⟩)) hg hat)
                                 have n4_ := Aside0.mk (hb)
                                 have n5_ := Aside0.mk (ho)
                                 clear HO_5
                                 clear HO_8
                                 clear BK200
                                 clear HO223
                                 clear HB
                                 clear HO213
                                 have HO_5 := n0_
                                 have HO_8 := n1_
                                 have BK200 := n2_
                                 have HO223 := n3_
                                 have HB := n4_
                                 have HO220 := n5_
                                 clear n0_ n1_ n2_ n3_ n4_ n5_
                                 clear ho hb hg hat
                                 refine hK.out _ _ ⟨(blk_cell BK200.out 0).trans rfl, (blk_cell BK200.out 1).trans rfl, (blk_cell BK200.out 2).trans rfl⟩ (fun hHeld => ?_)
                                 clear hK K
                                 refine norm_ (a' := ?_) ?_ ?_
                                 rotate_left
                                 ·show Act.put _ (some 115) _ = _
                                  simp only [Act.put, List.setIfInBounds_toArray, List.set_cons_zero, List.set_cons_succ, i64_w, i32_w]
                                  rfl
                                 exact norm_ (by simp only [putAll, Act.put, List.setIfInBounds_toArray, List.set_cons_zero, List.set_cons_succ]) (hCont (v212, v219, v222) _ ⟨hHeld, (by (with_reducible repeat (first | apply Kd.R_alloc | apply Kd.R_drewN | apply Kd.R_drew)); exact HO220.out), (by (with_reducible repeat (first | apply Kd.R_alloc | apply Kd.R_drewN | apply Kd.R_drew)); exact Kd.R_mono HO223.out (fun _ hk => ⟨hk.2, hk.1⟩)), (by (with_reducible repeat (first | apply Kd.R_alloc | apply Kd.R_drewN | apply Kd.R_drew)); exact HO_5.out), (by (with_reducible repeat (first | apply Kd.R_alloc | apply Kd.R_drewN | apply Kd.R_drew)); exact HO_8.out), (by (with_reducible repeat (first | refine blk_drewN ?_ _ | refine blk_drew ?_ | refine blk_alloc ?_ _)); exact BK200.out), (by repeat (first | (with_reducible first | exact HB.out | apply below_alloc | apply pw_below_drewN | apply below_drew1 | refine below_set ?_ GE200.out) | exact HB.out))⟩)
                               rintro ⟨v212, v219, v222⟩ w81 ⟨hS_, h0_, h1_, h2_, h3_, h4_, h5_⟩
                               have n0_ : Aside0 (Kd.R k33 33 w81 w.heap.size (fun k_ => some k_ ≠ (v222 : Value).ownBlock ∧ k_ ≠ gb200) v219 y218) := ⟨h0_⟩
                               have n1_ : Aside0 (Kd.R k33 33 w81 w.heap.size (fun k_ => some k_ ≠ (v219 : Value).ownBlock ∧ k_ ≠ gb200) v222 y221) := ⟨h1_⟩
                               have n2_ : Aside0 (Kd.R (Kd.int .i64) 2 w81 w.heap.size (fun k_ => some k_ ≠ (v196 : Value).ownBlock) v188 t186) := ⟨h2_⟩
                               have n3_ : Aside0 (Kd.R (Kd.int .i64) 2 w81 w.heap.size (fun k_ => some k_ ≠ (v188 : Value).ownBlock) v196 t194) := ⟨h3_⟩
                               have n4_ : Aside0 (w81.heap[gb200]? = some (.cells #[.int .i64 ((rd_T33 l0 (ji34)).f0), .int .i64 ((rd_T33 l0 (ji34)).f1), .int .i64 ((rd_T33 l0 (ji34)).f2)] 33 (0, 0))) := ⟨h4_⟩
                               have n5_ : Aside0 (Below w.heap.size w w81) := ⟨h5_⟩
                               clear HO_5
                               clear HO_8
                               clear BK200
                               clear HB
                               clear h0_ h1_ h2_ h3_ h4_ h5_
                               have HO220 := n0_
                               have HO223 := n1_
                               have HO_5 := n2_
                               have HO_8 := n3_
                               have BK200 := n4_
                               have HB := n5_
                               clear n0_ n1_ n2_ n3_ n4_ n5_
                               have hHeld : w81.cell? ⟨gb200, 0, none⟩ = some (.int .i64 ((rd_T33 l0 (ji34)).f0)) ∧ w81.cell? ⟨gb200, 1, none⟩ = some (.int .i64 ((rd_T33 l0 (ji34)).f1)) ∧ w81.cell? ⟨gb200, 2, none⟩ = some (.int .i64 ((rd_T33 l0 (ji34)).f2)) := hS_
                               obtain ⟨Ao83, co83, eo83⟩ := Kd.R_slice HO223.out
                               (first | subst eo83 | (injection eo83 with f1_ f2_ f3_; have f4_ := f1_.symm; have f5_ := f3_.symm; clear f1_ f2_ f3_; subst f4_; subst f5_))
                               refine norm_ (a' := ?_) ?_ ?_
                               rotate_left
                               ·simp only [putAll, Act.put, List.setIfInBounds_toArray, List.set_cons_zero, List.set_cons_succ]
                                rfl
                               refine one_ (i := 10) (N := some 121) #[true, true, true, true, true, true, true, true, true, true, true, true, false, false, false, false, false, false] rfl rfl (one_of HT_.out (by kernel_rfl)) (by decide) (fun K hK => ?_)
                               refine Kd.R_append_rows_step k33 (w0 := w) w.heap.size (by rfl) (.tmp 115) (.tmp 120) 22 33 (.agg #[(.int .i64 0), (.int .i64 0), (.int .i64 0)]) 24 rfl Try.underlying22 info33 rfl (by decide) (by omega) v219 y218 y221 _ _ _ (fun k_ => some k_ ≠ (.slice Ao83 y221.length co83 : Value).ownBlock ∧ k_ ≠ gb200) (fun _ => False) rfl rfl ?aO ?aR (fun _ _ h => h) (fun _ h => h.elim) ?aF ?aB ?aS ?aL ?_
                               (case aR => repeat (first | exact (Kd.R_reads' HO223.out).2.2 | (with_reducible refine Kd.C_alloc ?_ _) | (with_reducible refine Kd.C_drewN ?_ _) | (with_reducible refine Kd.C_drew ?_)))
                               (case aB => exact (by repeat (first | (with_reducible first | exact HB.out | apply below_alloc | apply pw_below_drewN | apply below_drew1 | refine below_set ?_ GE200.out) | exact HB.out)))
                               (case aF => exact (fun k_ hk => ⟨Kd.fresh' (Kd.R_lt (by (with_reducible repeat (first | apply Kd.R_alloc | apply Kd.R_drewN | apply Kd.R_drew)); exact HO223.out)) k_ hk, Kd.freshB (g := gb200) (o := .cells #[.int .i64 ((rd_T33 l0 (ji34)).f0), .int .i64 ((rd_T33 l0 (ji34)).f1), .int .i64 ((rd_T33 l0 (ji34)).f2)] 33 (0, 0)) (by (with_reducible repeat (first | refine blk_drewN ?_ _ | refine blk_drew ?_ | refine blk_alloc ?_ _)); exact BK200.out) k_ hk⟩))
                               (case aO => exact (by (with_reducible repeat (first | apply Kd.R_alloc | apply Kd.R_drewN | apply Kd.R_drew)); exact HO220.out))
                               (case aS => exact (below_size (by repeat (first | (with_reducible first | exact HB.out | apply below_alloc | apply pw_below_drewN | apply below_drew1 | refine below_set ?_ GE200.out) | exact HB.out))))
                               (case aL => have := LMc69.out; omega)
                               intro v225 w82 ho hb hg hat
                               rw [← Ny224.out] at ho
                               have n0_ := Aside0.mk (Kd.R_over' (by (with_reducible repeat (first | apply Kd.R_alloc | apply Kd.R_drewN | apply Kd.R_drew)); exact HO_5.out) (Kd.R_typed (by (with_reducible repeat (first | apply Kd.R_alloc | apply Kd.R_drewN | apply Kd.R_drew)); exact HO220.out)) (by decide) hg)
                               have n1_ := Aside0.mk (Kd.R_over' (by (with_reducible repeat (first | apply Kd.R_alloc | apply Kd.R_drewN | apply Kd.R_drew)); exact HO_8.out) (Kd.R_typed (by (with_reducible repeat (first | apply Kd.R_alloc | apply Kd.R_drewN | apply Kd.R_drew)); exact HO220.out)) (by decide) hg)
                               have n2_ := Aside0.mk (blk_grown (g := gb200) (o := .cells #[.int .i64 ((rd_T33 l0 (ji34)).f0), .int .i64 ((rd_T33 l0 (ji34)).f1), .int .i64 ((rd_T33 l0 (ji34)).f2)] 33 (0, 0)) (by (with_reducible repeat (first | refine blk_drewN ?_ _ | refine blk_drew ?_ | refine blk_alloc ?_ _)); exact BK200.out) hg (Kd.R_away HO220.out (fun _ hk => hk.2)))
                               have n3_ := Aside0.mk (Kd.R_after (ok := (fun k_ => k_ ≠ gb200)) (by (with_reducible repeat (first | apply Kd.R_alloc | apply Kd.R_drewN | apply Kd.R_drew)); exact Kd.R_mono HO223.out (fun _ hk => ⟨hk.2, hk.1⟩)) hg hat)
                               have n4_ := Aside0.mk (hb)
                               have n5_ := Aside0.mk (ho)
                               clear HO_5
                               clear HO_8
                               clear BK200
                               clear HO223
                               clear HB
                               clear HO220
                               have HO_5 := n0_
                               have HO_8 := n1_
                               have BK200 := n2_
                               have HO223 := n3_
                               have HB := n4_
                               have HO226 := n5_
                               clear n0_ n1_ n2_ n3_ n4_ n5_
                               clear ho hb hg hat
                               obtain ⟨Ao84, co84, eo84⟩ := Kd.R_slice HO226.out
                               (first | subst eo84 | (injection eo84 with f1_ f2_ f3_; have f4_ := f1_.symm; have f5_ := f3_.symm; clear f1_ f2_ f3_; subst f4_; subst f5_))
                               refine hK.out _ _ ⟨(blk_cell BK200.out 0).trans rfl, (blk_cell BK200.out 1).trans rfl, (blk_cell BK200.out 2).trans rfl⟩ (fun hHeld => ?_)
                               clear hK K
                               refine norm_ (a' := ?_) ?_ ?_
                               rotate_left
                               ·show Act.put _ (some 121) _ = _
                                simp only [Act.put, List.setIfInBounds_toArray, List.set_cons_zero, List.set_cons_succ, i64_w, i32_w]
                                rfl
                               refine one_ (i := 12) (N := some 123) #[true, true, true, true, true, true, true, true, true, true, true, true, true, false, false, false, false, false] rfl rfl (one_of HT_.out (by kernel_rfl)) (by decide) (fun K hK => ?_)
                               refine goes_ Try.func11 (by kernel_rfl) rfl #[.slice Ao84 y224.length co84, .slice A1 l1.length c1] (by rfl) rfl rfl (by (try simp only [List.map_toArray, List.map_cons, List.map_nil]); first | done | rfl | (simp only [List.length_drop, List.length_take]; rfl)) ?_
                               with_reducible refine (lang_Alone.calls _ _ y224 _ _ l1 t227 t228 _ ?side1 ?side2 ?side3 ?side4 A70.out).mono ?_
                               (case side1 => repeat (first | exact (Kd.R_reads' HO226.out).2.2 | (with_reducible refine Kd.C_alloc ?_ _) | (with_reducible refine Kd.C_drewN ?_ _) | (with_reducible refine Kd.C_drew ?_)))
                               (case side2 => exact (Kd.R_reads' HO226.out).2.1)
                               (case side3 => repeat (first | exact (Kd.C_below HR1.out HB.out) | (with_reducible refine Kd.C_alloc ?_ _) | (with_reducible refine Kd.C_drewN ?_ _) | (with_reducible refine Kd.C_drew ?_)))
                               (case side4 => exact HC1.out)
                               rintro e w85 ⟨v229, rfl, ho0, hb⟩
                               refine ⟨_, rfl, ?_⟩
                               have n0_ := Aside0.mk (Kd.R_elder' (by (with_reducible repeat (first | apply Kd.R_alloc | apply Kd.R_drewN | apply Kd.R_drew)); exact HO_5.out) (Kd.R_base ho0) hb)
                               have n1_ := Aside0.mk (Kd.R_elder' (by (with_reducible repeat (first | apply Kd.R_alloc | apply Kd.R_drewN | apply Kd.R_drew)); exact HO_8.out) (Kd.R_base ho0) hb)
                               have n2_ := Aside0.mk (Kd.R_below (by (with_reducible repeat (first | apply Kd.R_alloc | apply Kd.R_drewN | apply Kd.R_drew)); exact HO223.out) hb)
                               have n3_ := Aside0.mk (Kd.R_below (by (with_reducible repeat (first | apply Kd.R_alloc | apply Kd.R_drewN | apply Kd.R_drew)); exact HO226.out) hb)
                               have n4_ := Aside0.mk (Kd.R_lower (Kd.R_new' (Kd.R_new' ho0 (Kd.R_lt (by (with_reducible repeat (first | apply Kd.R_alloc | apply Kd.R_drewN | apply Kd.R_drew)); exact HO_5.out))) (Kd.R_lt (by (with_reducible repeat (first | apply Kd.R_alloc | apply Kd.R_drewN | apply Kd.R_drew)); exact HO_8.out))) (below_size (by repeat (first | (with_reducible first | exact HB.out | apply below_alloc | apply pw_below_drewN | apply below_drew1 | refine below_set ?_ GE200.out) | exact HB.out))))
                               have n5_ := Aside0.mk (blk_below (g := gb200) (o := .cells #[.int .i64 ((rd_T33 l0 (ji34)).f0), .int .i64 ((rd_T33 l0 (ji34)).f1), .int .i64 ((rd_T33 l0 (ji34)).f2)] 33 (0, 0)) (by (with_reducible repeat (first | refine blk_drewN ?_ _ | refine blk_drew ?_ | refine blk_alloc ?_ _)); exact BK200.out) hb)
                               have n6_ := Aside0.mk (below_step (by repeat (first | (with_reducible first | exact HB.out | apply below_alloc | apply pw_below_drewN | apply below_drew1 | refine below_set ?_ GE200.out) | exact HB.out)) hb)
                               clear HO_5
                               clear HO_8
                               clear HO223
                               clear HO226
                               clear BK200
                               clear HB
                               have HO_5 := n0_
                               have HO_8 := n1_
                               have HO223 := n2_
                               have HO226 := n3_
                               have HO230 := n4_
                               have BK200 := n5_
                               have HB := n6_
                               clear n0_ n1_ n2_ n3_ n4_ n5_ n6_
                               (try clear hb)
                               (try clear hb2)
                               (try clear hk)
                               (try clear hi)
                               (try clear ho0)
                               refine hK.out _ _ ⟨(blk_cell BK200.out 0).trans rfl, (blk_cell BK200.out 1).trans rfl, (blk_cell BK200.out 2).trans rfl⟩ (fun hHeld => ?_)
                               clear hK K
                               refine norm_ (a' := ?_) ?_ ?_
                               rotate_left
                               ·show Act.put _ (some 123) _ = _
                                simp only [Act.put, List.setIfInBounds_toArray, List.set_cons_zero, List.set_cons_succ, i64_w, i32_w]
                                rfl
                               refine pure_ (i := 13) (N := some 110) (v := ?_) (a' := ?_) #[true, true, true, true, true, true, true, true, true, true, true, true, true, true, false, false, false, false] rfl rfl (any_of HT_.out (by kernel_rfl)) (fun _ _ _ h => h) (Or.inl ⟨by rfl, ?_⟩) ?_ ?_
                               rotate_left
                               ·intro w'
                                go_simp
                                with_reducible rfl
                               rotate_left
                               ·simp only [Act.put, List.setIfInBounds_toArray, List.set_cons_zero, List.set_cons_succ, i64_w, i32_w]
                                rfl
                               refine pure_ (i := 14) (N := some 124) (v := ?_) (a' := ?_) #[true, true, true, true, true, true, true, true, true, true, true, true, true, true, true, false, false, false] rfl rfl (any_of HT_.out (by kernel_rfl)) (fun _ _ _ h => h) (Or.inl ⟨by rfl, ?_⟩) ?_ ?_
                               rotate_left
                               ·intro w'
                                go_simp
                                with_reducible rfl
                               rotate_left
                               ·simp only [Act.put, List.setIfInBounds_toArray, List.set_cons_zero, List.set_cons_succ, i64_w, i32_w]
                                rfl
                               refine pure_ (i := 15) (N := some 125) (v := ?_) (a' := ?_) #[true, true, true, true, true, true, true, true, true, true, true, true, true, true, true, true, false, false] rfl rfl (any_of HT_.out (by kernel_rfl)) (fun _ _ _ h => h) (Or.inl ⟨by rfl, ?_⟩) ?_ ?_
                               rotate_left
                               ·intro w'
                                go_simp
                                with_reducible rfl
                               rotate_left
                               ·simp only [Act.put, List.setIfInBounds_toArray, List.set_cons_zero, List.set_cons_succ, i64_w, i32_w]
                                rfl
                               refine pure_ (i := 16) (N := some 12) (v := ?_) (a' := ?_) #[true, true, true, true, true, true, true, true, true, true, true, true, true, true, true, true, true, false] rfl rfl (any_of HT_.out (by kernel_rfl)) (fun _ _ _ h => h) (Or.inl ⟨by rfl, ?_⟩) ?_ ?_
                               rotate_left
                               ·intro w'
                                go_simp
                                with_reducible rfl
                               rotate_left
                               ·simp only [Act.put, List.setIfInBounds_toArray, List.set_cons_zero, List.set_cons_succ, i64_w, i32_w]
                                rfl
                               refine pure_ (i := 17) (N := some 13) (v := ?_) (a' := ?_) #[true, true, true, true, true, true, true, true, true, true, true, true, true, true, true, true, true, true] rfl rfl (any_of HT_.out (by kernel_rfl)) (fun _ _ _ h => h) (Or.inl ⟨by rfl, ?_⟩) ?_ ?_
                               rotate_left
                               ·intro w'
                                go_simp
                                with_reducible rfl
                               rotate_left
                               ·simp only [Act.put, List.setIfInBounds_toArray, List.set_cons_zero, List.set_cons_succ, i64_w, i32_w]
                                rfl
                               refine done_ (done_of HT_.out (by kernel_rfl)) ?_
                               obtain ⟨Ao86, co86, eo86⟩ := Kd.R_slice HO230.out
                               subst eo86
                               obtain ⟨Ao87, co87, eo87⟩ := Kd.R_slice HO_8.out
                               subst eo87
                               try go_wp2_with (first | (go_at_call 12; (with_reducible refine (quarrelref01_Vals.calls kj60 _ _ t227 _ _ t194 true _ ?side1 ?side2 ?side3 ?side4 A72.out).mono ?_); (case side1 => repeat (first | exact (Kd.R_reads' HO230.out).2.2 | (with_reducible refine Kd.C_alloc ?_ _) | (with_reducible refine Kd.C_drewN ?_ _) | (with_reducible refine Kd.C_drew ?_))); (case side2 => exact (Kd.R_reads' HO230.out).2.1); (case side3 => repeat (first | exact (Kd.R_reads' HO_8.out).2.2 | (with_reducible refine Kd.C_alloc ?_ _) | (with_reducible refine Kd.C_drewN ?_ _) | (with_reducible refine Kd.C_drew ?_))); (case side4 => exact (Kd.R_reads' HO_8.out).2.1); rintro e w' ⟨rfl, ⟨nd, rfl⟩⟩))
                               go_roundg kj60
                               case measure => have := HJ4.out; have := HJ12.out; have := HK3.out; have := HJ21.out; have := HJ27.out; have := HJ36.out; have := HJ60.out; omega
                               case rel => exact ⟨(wrap64 (x7_3 + 1)), (by first | rfl | (simp; done) | (simp [*]; done)), H', ⟨by have := HJ4.out; have := HJ12.out; have := HK3.out; have := HJ21.out; have := HJ27.out; have := HJ36.out; have := HJ60.out; omega⟩, ⟨by (with_reducible repeat (first | apply Kd.R_alloc | apply Kd.R_drewN | apply Kd.R_drew)); exact Kd.R_mono HO_5.out (fun _ hk => trivial)⟩, ⟨by repeat (first | (with_reducible first | exact HB.out | apply below_alloc | apply pw_below_drewN | apply below_drew1 | refine below_set ?_ GE200.out) | exact HB.out)⟩⟩
                              ·replace c73 := Bool.eq_false_iff.mpr c73
                               subst c73
                               have H1 : (some false) = some r := by rw [if_neg (show ¬ (false = true) by decide)] at H; exact H
                               clear H
                               have H := H1
                               clear H1
                               obtain rfl := Option.some.inj H
                               try go_wp2
                               have n0_ := Aside0.mk (Kd.R_drew HO_5.out)
                               have n1_ := Aside0.mk (Kd.R_drew HO_8.out)
                               have n2_ := Aside0.mk (blk_drew BK200.out)
                               have n3_ := Aside0.mk (below_drew1 HB.out)
                               clear HO_5
                               clear HO_8
                               clear BK200
                               clear HB
                               have HO_5 := n0_
                               have HO_8 := n1_
                               have BK200 := n2_
                               have HB := n3_
                               clear n0_ n1_ n2_ n3_
                               have q89 : (x7_3 : Int) ≤ ((l0.length : Int) : Int) := of_decide_eq_true (by first | (with_reducible assumption) | assumption)
                               obtain ⟨i089, hi089, _, hsz89, _⟩ := info_parts info33
                               have hroom89 : l0.length ≤ c0 := HC0.out
                               have hC89 : Kd.C k33 _ (some ad199) l0.length l0 := HR0.out
                               (try clear hcut23)
                               (try clear hcut49)
                               (try clear hcut53)
                               (try clear hcut75)
                               have hcut89 := cut_to (P := Try.prog) 22 33 .i64 Try.underlying22 hi089 (some ad199) l0.length c0 x7_3 (of_decide_eq_true (by first | (with_reducible assumption) | assumption)) q89 hroom89
                               have hr89 := Kd.C_take (m := (x7_3 : Int).toNat) hC89 (by omega)
                               have hy89 : y214.length = (x7_3 : Int).toNat := (by rw [Ny214.out, List.length_take]; omega)
                               rw [← Ny214.out] at hr89
                               rw [← hy89] at hcut89
                               have HR217 := Aside0.mk hr89
                               have HC217 := Aside0.mk (show y214.length ≤ c0 from by omega)
                               clear hr89 hC89 hroom89 hi089 hsz89
                               have KY89 := Aside0.mk hy89
                               clear hy89
                               replace q89 := eq_true q89
                               refine start_ (n := 18) (S := fun w' => w'.cell? ⟨gb200, 0, none⟩ = some (.int .i64 ((rd_T33 l0 (ji34)).f0)) ∧ w'.cell? ⟨gb200, 1, none⟩ = some (.int .i64 ((rd_T33 l0 (ji34)).f1)) ∧ w'.cell? ⟨gb200, 2, none⟩ = some (.int .i64 ((rd_T33 l0 (ji34)).f2))) (ds := []) #[false, false, false, false, false, false, false, false, false, false, false, false, false, false, false, false, false, false] (by kernel_rfl) rfl rfl ⟨(blk_cell BK200.out 0).trans rfl, (blk_cell BK200.out 1).trans rfl, (blk_cell BK200.out 2).trans rfl⟩ (fun hHeld => ?_); refine with_tabW quarrellaw11_LangLast.tab24 quarrellaw11_LangLast.bits24 (fun HT_ HW_ => ?_)
                               generalize wc.drew = w88 at HO_5 HO_8 BK200 HB HR217 hHeld ⊢
                               refine pure_ (i := 1) (N := some 112) (v := ?_) (a' := ?_) #[false, true, false, false, false, false, false, false, false, false, false, false, false, false, false, false, false, false] rfl rfl (any_of HT_.out (by kernel_rfl)) (fun _ _ _ h => h) (Or.inl ⟨by rfl, ?_⟩) ?_ ?_
                               rotate_left
                               ·intro w'
                                go_simp
                                with_reducible rfl
                               rotate_left
                               ·simp only [Act.put, List.setIfInBounds_toArray, List.set_cons_zero, List.set_cons_succ, i64_w, i32_w]
                                rfl
                               refine pure_ (i := 2) (N := some 113) (v := ?_) (a' := ?_) #[false, true, true, false, false, false, false, false, false, false, false, false, false, false, false, false, false, false] rfl rfl (any_of HT_.out (by kernel_rfl)) (fun _ _ _ h => h) (Or.inl ⟨by rfl, ?_⟩) ?_ ?_
                               rotate_left
                               ·intro w'
                                go_simp
                                with_reducible rfl
                               rotate_left
                               ·simp only [Act.put, List.setIfInBounds_toArray, List.set_cons_zero, List.set_cons_succ, i64_w, i32_w]
                                rfl
                               refine pure_ (i := 3) (N := some 114) (v := ?_) (a' := ?_) #[false, true, true, true, false, false, false, false, false, false, false, false, false, false, false, false, false, false] rfl rfl (any_of HT_.out (by kernel_rfl)) (fun _ _ _ h => h) (Or.inl ⟨by rfl, ?_⟩) ?_ ?_
                               rotate_left
                               ·intro w'
                                go_simp
                                with_reducible rfl
                               rotate_left
                               ·simp only [Act.put, List.setIfInBounds_toArray, List.set_cons_zero, List.set_cons_succ, i64_w, i32_w]
                                rfl
                               refine pure_ (i := 5) (N := some 116) (v := ?_) (a' := ?_) #[false, true, true, true, false, true, false, false, false, false, false, false, false, false, false, false, false, false] rfl rfl (any_of HT_.out (by kernel_rfl)) (fun _ _ _ h => h) (Or.inl ⟨by rfl, ?_⟩) ?_ ?_
                               rotate_left
                               ·intro w'
                                go_simp
                                with_reducible rfl
                               rotate_left
                               ·simp only [Act.put, List.setIfInBounds_toArray, List.set_cons_zero, List.set_cons_succ, i64_w, i32_w]
                                rfl
                               refine pure_ (i := 6) (N := some 117) (v := ?_) (a' := ?_) #[false, true, true, true, false, true, true, false, false, false, false, false, false, false, false, false, false, false] rfl rfl (any_of HT_.out (by kernel_rfl)) (fun _ _ _ h => h) (Or.inl ⟨by rfl, ?_⟩) ?_ ?_
                               rotate_left
                               ·intro w'
                                go_simp
                                with_reducible rfl
                               rotate_left
                               ·simp only [Act.put, List.setIfInBounds_toArray, List.set_cons_zero, List.set_cons_succ, i64_w, i32_w]
                                rfl
                               refine pure_ (i := 11) (N := some 122) (v := ?_) (a' := ?_) #[false, true, true, true, false, true, true, false, false, false, false, true, false, false, false, false, false, false] rfl rfl (any_of HT_.out (by kernel_rfl)) (fun _ _ _ h => h) (Or.inl ⟨by rfl, ?_⟩) ?_ ?_
                               rotate_left
                               ·intro w'
                                go_simp
                                with_reducible rfl
                               rotate_left
                               ·simp only [Act.put, List.setIfInBounds_toArray, List.set_cons_zero, List.set_cons_succ, i64_w, i32_w]
                                rfl
                               refine take_ (i := 7) (N := some 118) (v := ?_) (a' := ?_) #[false, true, true, true, false, true, true, true, false, false, false, true, false, false, false, false, false, false] rfl rfl (take_ofW HT_.out HW_.out (by kernel_rfl)) (fun _ _ _ h => h) (Or.inl ⟨by rfl, ?_⟩) hHeld ?_ ?_
                               rotate_left
                               ·rintro w' ⟨s0, s1, s2⟩
                                go_simp
                                with_reducible rfl
                               rotate_left
                               ·simp only [Act.put, List.setIfInBounds_toArray, List.set_cons_zero, List.set_cons_succ, i64_w, i32_w]
                                rfl
                               refine pure_ (i := 8) (N := some 119) (v := ?_) (a' := ?_) #[false, true, true, true, false, true, true, true, true, false, false, true, false, false, false, false, false, false] rfl rfl (any_of HT_.out (by kernel_rfl)) (fun _ _ _ h => h) (Or.inl ⟨by rfl, ?_⟩) ?_ ?_
                               rotate_left
                               ·intro w'
                                go_simp
                                with_reducible rfl
                               rotate_left
                               ·simp only [Act.put, List.setIfInBounds_toArray, List.set_cons_zero, List.set_cons_succ, i64_w, i32_w]
                                rfl
                               refine join_ (σ := Value × Value × Value) 7 #[true, true, true, true, true, true, true, true, true, true, false, true, false, false, false, false, false, false] (fun s_ => [(111, s_.1), (115, s_.2.1), (120, s_.2.2)]) (fun s_ w' => (w'.cell? ⟨gb200, 0, none⟩ = some (.int .i64 ((rd_T33 l0 (ji34)).f0)) ∧ w'.cell? ⟨gb200, 1, none⟩ = some (.int .i64 ((rd_T33 l0 (ji34)).f1)) ∧ w'.cell? ⟨gb200, 2, none⟩ = some (.int .i64 ((rd_T33 l0 (ji34)).f2))) ∧ (Kd.R k33 33 w' w.heap.size (fun k_ => some k_ ≠ (s_.2.2 : Value).ownBlock ∧ k_ ≠ gb200) s_.2.1 y218) ∧ (Kd.R k33 33 w' w.heap.size (fun k_ => some k_ ≠ (s_.2.1 : Value).ownBlock ∧ k_ ≠ gb200) s_.2.2 y221) ∧ (Kd.R (Kd.int .i64) 2 w' w.heap.size (fun k_ => some k_ ≠ (v196 : Value).ownBlock) v188 t186) ∧ (Kd.R (Kd.int .i64) 2 w' w.heap.size (fun k_ => some k_ ≠ (v188 : Value).ownBlock) v196 t194) ∧ (w'.heap[gb200]? = some (.cells #[.int .i64 ((rd_T33 l0 (ji34)).f0), .int .i64 ((rd_T33 l0 (ji34)).f1), .int .i64 ((rd_T33 l0 (ji34)).f2)] 33 (0, 0))) ∧ (Below w.heap.size w w')) ?_ ?_
                               rotate_left
                               ·intro hCont
                                refine two_ (i := 0) (j := 9) (Ni := some 111) (Nj := some 120) #[true, true, true, true, false, true, true, true, true, false, false, true, false, false, false, false, false, false] #[false, true, true, true, false, true, true, true, true, true, false, true, false, false, false, false, false, false] rfl rfl rfl rfl (two_of HT_.out (by kernel_rfl)) (by decide) (by decide) (fun K hK => ?_) (fun K hK => ?_)
                                ·skip
                                 refine Kd.R_lit_step k33 _ 33 ?hg (N := 111) ?hd (xs := ([] : List (S33))) (inner := []) (ok := fun _ => True) (okp := fun _ => True) ?hr ?hp (fun _ hk => hk) trivial (Below.refl _ _) (Nat.le_refl _) (by simp) ?_; (case hd => rfl); (case hg => rfl); (case hr => first | (go_simp; done) | (go_simp; rfl)); (case hp => exact (Reps.none _ _))
                                 intro v212 w90 ho91 hb hg_ hnew_
                                 clear hg_ hnew_
                                 (first | rw [← Ny211.out] at ho91 | (simp only [Int.reduceToNat] at ho91; rw [← Ny211.out] at ho91))
                                 have n0_ := Aside0.mk (Kd.R_below (by (with_reducible repeat (first | apply Kd.R_alloc | apply Kd.R_drewN | apply Kd.R_drew)); exact HO_5.out) hb)
                                 have n1_ := Aside0.mk (Kd.R_below (by (with_reducible repeat (first | apply Kd.R_alloc | apply Kd.R_drewN | apply Kd.R_drew)); exact HO_8.out) hb)
                                 have n2_ := Aside0.mk (Kd.R_lower (Kd.R_newB ho91 (g := gb200) (o := .cells #[.int .i64 ((rd_T33 l0 (ji34)).f0), .int .i64 ((rd_T33 l0 (ji34)).f1), .int .i64 ((rd_T33 l0 (ji34)).f2)] 33 (0, 0)) (by (with_reducible repeat (first | refine blk_drewN ?_ _ | refine blk_drew ?_ | refine blk_alloc ?_ _)); exact BK200.out)) (below_size (by repeat (first | (with_reducible first | exact HB.out | apply below_alloc | apply pw_below_drewN | apply below_drew1 | refine below_set ?_ GE200.out) | exact HB.out))))
                                 have n3_ := Aside0.mk (blk_below (g := gb200) (o := .cells #[.int .i64 ((rd_T33 l0 (ji34)).f0), .int .i64 ((rd_T33 l0 (ji34)).f1), .int .i64 ((rd_T33 l0 (ji34)).f2)] 33 (0, 0)) (by (with_reducible repeat (first | refine blk_drewN ?_ _ | refine blk_drew ?_ | refine blk_alloc ?_ _)); exact BK200.out) hb)
                                 have n4_ := Aside0.mk (below_step (by repeat (first | (with_reducible first | exact HB.out | apply below_alloc | apply pw_below_drewN | apply below_drew1 | refine below_set ?_ GE200.out) | exact HB.out)) hb)
                                 clear HO_5
                                 clear HO_8
                                 clear BK200
                                 clear HB
                                 have HO_5 := n0_
                                 have HO_8 := n1_
                                 have HO213 := n2_
                                 have BK200 := n3_
                                 have HB := n4_
                                 clear n0_ n1_ n2_ n3_ n4_
                                 clear hb ho91
                                 refine hK.out _ _ ⟨(blk_cell BK200.out 0).trans rfl, (blk_cell BK200.out 1).trans rfl, (blk_cell BK200.out 2).trans rfl⟩ (fun hHeld => ?_)
                                 clear hK K
                                 refine norm_ (a' := ?_) ?_ ?_
                                 rotate_left
                                 ·show Act.put _ (some 111) _ = _
                                  simp only [Act.put, List.setIfInBounds_toArray, List.set_cons_zero, List.set_cons_succ, i64_w, i32_w]
                                  rfl
                                 refine two_ (i := 4) (j := 9) (Ni := some 115) (Nj := some 120) #[true, true, true, true, true, true, true, true, true, false, false, true, false, false, false, false, false, false] #[true, true, true, true, false, true, true, true, true, true, false, true, false, false, false, false, false, false] rfl rfl rfl rfl (two_of HT_.out (by kernel_rfl)) (by decide) (by decide) (fun K hK => ?_) (fun K hK => ?_)
                                 ·skip
                                  refine Kd.R_append_rows_step k33 (w0 := w) w.heap.size (by rfl) (.tmp 111) (.tmp 114) 22 33 (.agg #[(.int .i64 0), (.int .i64 0), (.int .i64 0)]) 24 rfl Try.underlying22 info33 rfl (by decide) (by omega) v212 y211 y214 _ _ _ (fun k_ => k_ ≠ gb200) (fun _ => False) rfl rfl ?aO ?aR (fun _ _ h => h) (fun _ h => h.elim) ?aF ?aB ?aS ?aL ?_
                                  (case aR => repeat (first | exact (Kd.C_below HR217.out HB.out) | (with_reducible refine Kd.C_alloc ?_ _) | (with_reducible refine Kd.C_drewN ?_ _) | (with_reducible refine Kd.C_drew ?_)))
                                  (case aB => exact (by repeat (first | (with_reducible first | exact HB.out | apply below_alloc | apply pw_below_drewN | apply below_drew1 | refine below_set ?_ GE200.out) | exact HB.out)))
                                  (case aF => exact (fun k_ hk => Kd.freshB (g := gb200) (o := .cells #[.int .i64 ((rd_T33 l0 (ji34)).f0), .int .i64 ((rd_T33 l0 (ji34)).f1), .int .i64 ((rd_T33 l0 (ji34)).f2)] 33 (0, 0)) (by (with_reducible repeat (first | refine blk_drewN ?_ _ | refine blk_drew ?_ | refine blk_alloc ?_ _)); exact BK200.out) k_ hk))
                                  (case aO => exact (by (with_reducible repeat (first | apply Kd.R_alloc | apply Kd.R_drewN | apply Kd.R_drew)); exact Kd.R_mono HO213.out (fun _ hk => hk.2)))
                                  (case aS => exact (below_size (by repeat (first | (with_reducible first | exact HB.out | apply below_alloc | apply pw_below_drewN | apply below_drew1 | refine below_set ?_ GE200.out) | exact HB.out))))
                                  (case aL => have := LMc68.out; omega)
                                  intro v219 w92 ho hb hg hat
                                  rw [← Ny218.out] at ho
                                  have n0_ := Aside0.mk (Kd.R_over' (by (with_reducible repeat (first | apply Kd.R_alloc | apply Kd.R_drewN | apply Kd.R_drew)); exact HO_5.out) (Kd.R_typed (by (with_reducible repeat (first | apply Kd.R_alloc | apply Kd.R_drewN | apply Kd.R_drew)); exact HO213.out)) (by decide) hg)
                                  have n1_ := Aside0.mk (Kd.R_over' (by (with_reducible repeat (first | apply Kd.R_alloc | apply Kd.R_drewN | apply Kd.R_drew)); exact HO_8.out) (Kd.R_typed (by (with_reducible repeat (first | apply Kd.R_alloc | apply Kd.R_drewN | apply Kd.R_drew)); exact HO213.out)) (by decide) hg)
                                  have n2_ := Aside0.mk (blk_grown (g := gb200) (o := .cells #[.int .i64 ((rd_T33 l0 (ji34)).f0), .int .i64 ((rd_T33 l0 (ji34)).f1), .int .i64 ((rd_T33 l0 (ji34)).f2)] 33 (0, 0)) (by (with_reducible repeat (first | refine blk_drewN ?_ _ | refine blk_drew ?_ | refine blk_alloc ?_ _)); exact BK200.out) hg (Kd.R_away HO213.out (fun _ hk => hk.2)))
                                  have n3_ := Aside0.mk (hb)
                                  have n4_ := Aside0.mk (ho)
                                  clear HO_5
                                  clear HO_8
                                  clear BK200
                                  clear HB
                                  clear HO213
                                  have HO_5 := n0_
                                  have HO_8 := n1_
                                  have BK200 := n2_
                                  have HB := n3_
                                  have HO220 := n4_
                                  clear n0_ n1_ n2_ n3_ n4_
                                  clear ho hb hg hat
                                  refine hK.out _ _ ⟨(blk_cell BK200.out 0).trans rfl, (blk_cell BK200.out 1).trans rfl, (blk_cell BK200.out 2).trans rfl⟩ (fun hHeld => ?_)
                                  clear hK K
                                  refine norm_ (a' := ?_) ?_ ?_
                                  rotate_left
                                  ·show Act.put _ (some 115) _ = _
                                   simp only [Act.put, List.setIfInBounds_toArray, List.set_cons_zero, List.set_cons_succ, i64_w, i32_w]
                                   rfl
                                  refine one_ (i := 9) (N := some 120) #[true, true, true, true, true, true, true, true, true, true, false, true, false, false, false, false, false, false] rfl rfl (one_of HT_.out (by kernel_rfl)) (by decide) (fun K hK => ?_)
                                  refine Kd.R_lit_step k33 _ 33 ?hg (N := 120) ?hd (xs := ([(⟨3, 0, 3⟩ : S33), (⟨1, ((rd_T33 l0 (ji34)).f1), 0⟩ : S33)] : List (S33))) (inner := [.int .i64 3, .int .i64 0, .int .i64 3, .int .i64 1, .int .i64 ((rd_T33 l0 (ji34)).f1), .int .i64 0]) (ok := fun _ => True) (okp := fun _ => True) ?hr ?hp (fun _ hk => hk) trivial (Below.refl _ _) (Nat.le_refl _) (by simp) ?_; (case hd => rfl); (case hg => rfl); (case hr => first | (go_simp; done) | (go_simp; rfl)); (case hp => exact (Reps.c3 (show Kd.M k33 _ _ _ (⟨3, 0, 3⟩ : S33) [.int .i64 3, .int .i64 0, .int .i64 3] from (k33_mkM _ _ _ (⟨3, 0, 3⟩ : S33) )) (Reps.c3 (show Kd.M k33 _ _ _ (⟨1, ((rd_T33 l0 (ji34)).f1), 0⟩ : S33) [.int .i64 1, .int .i64 ((rd_T33 l0 (ji34)).f1), .int .i64 0] from (k33_mkM _ _ _ (⟨1, ((rd_T33 l0 (ji34)).f1), 0⟩ : S33) )) (Reps.none _ _))))
                                  intro v222 w93 ho94 hb hg_ hnew_
                                  clear hg_ hnew_
                                  (first | rw [← Ny221.out] at ho94 | (simp only [Int.reduceToNat] at ho94; rw [← Ny221.out] at ho94))
                                  have n0_ := Aside0.mk (Kd.R_below (by (with_reducible repeat (first | apply Kd.R_alloc | apply Kd.R_drewN | apply Kd.R_drew)); exact HO_5.out) hb)
                                  have n1_ := Aside0.mk (Kd.R_below (by (with_reducible repeat (first | apply Kd.R_alloc | apply Kd.R_drewN | apply Kd.R_drew)); exact HO_8.out) hb)
                                  have n2_ := Aside0.mk (Kd.R_elder' (by (with_reducible repeat (first | apply Kd.R_alloc | apply Kd.R_drewN | apply Kd.R_drew)); exact HO220.out) (Kd.R_base ho94) hb)
                                  have n3_ := Aside0.mk (Kd.R_lower (Kd.R_newB (Kd.R_new' ho94 (Kd.R_lt (by (with_reducible repeat (first | apply Kd.R_alloc | apply Kd.R_drewN | apply Kd.R_drew)); exact HO220.out))) (g := gb200) (o := .cells #[.int .i64 ((rd_T33 l0 (ji34)).f0), .int .i64 ((rd_T33 l0 (ji34)).f1), .int .i64 ((rd_T33 l0 (ji34)).f2)] 33 (0, 0)) (by (with_reducible repeat (first | refine blk_drewN ?_ _ | refine blk_drew ?_ | refine blk_alloc ?_ _)); exact BK200.out)) (below_size (by repeat (first | (with_reducible first | exact HB.out | apply below_alloc | apply pw_below_drewN | apply below_drew1 | refine below_set ?_ GE200.out) | exact HB.out))))
                                  have n4_ := Aside0.mk (blk_below (g := gb200) (o := .cells #[.int .i64 ((rd_T33 l0 (ji34)).f0), .int .i64 ((rd_T33 l0 (ji34)).f1), .int .i64 ((rd_T33 l0 (ji34)).f2)] 33 (0, 0)) (by (with_reducible repeat (first | refine blk_drewN ?_ _ | refine blk_drew ?_ | refine blk_alloc ?_ _)); exact BK200.out) hb)
                                  have n5_ := Aside0.mk (below_step (by repeat (first | (with_reducible first | exact HB.out | apply below_alloc | apply pw_below_drewN | apply below_drew1 | refine below_set ?_ GE200.out) | exact HB.out)) hb)
                                  clear HO_5
                                  clear HO_8
                                  clear HO220
                                  clear BK200
                                  clear HB
                                  have HO_5 := n0_
                                  have HO_8 := n1_
                                  have HO220 := n2_
                                  have HO223 := n3_
                                  have BK200 := n4_
                                  have HB := n5_
                                  clear n0_ n1_ n2_ n3_ n4_ n5_
                                  clear hb ho94
                                  refine hK.out _ _ ⟨(blk_cell BK200.out 0).trans rfl, (blk_cell BK200.out 1).trans rfl, (blk_cell BK200.out 2).trans rfl⟩ (fun hHeld => ?_)
                                  clear hK K
                                  refine norm_ (a' := ?_) ?_ ?_
                                  rotate_left
                                  ·show Act.put _ (some 120) _ = _
                                   simp only [Act.put, List.setIfInBounds_toArray, List.set_cons_zero, List.set_cons_succ, i64_w, i32_w]
                                   rfl
                                  exact norm_ (by simp only [putAll, Act.put, List.setIfInBounds_toArray, List.set_cons_zero, List.set_cons_succ]) (hCont (v212, v219, v222) _ ⟨hHeld, (by (with_reducible repeat (first | apply Kd.R_alloc | apply Kd.R_drewN | apply Kd.R_drew)); exact Kd.R_mono HO220.out (fun _ hk => ⟨hk.2, hk.1⟩)), (by (with_reducible repeat (first | apply Kd.R_alloc | apply Kd.R_drewN | apply Kd.R_drew)); exact Kd.R_mono HO223.out (fun _ hk => ⟨hk.1.2, hk.2⟩)), (by (with_reducible repeat (first | apply Kd.R_alloc | apply Kd.R_drewN | apply Kd.R_drew)); exact HO_5.out), (by (with_reducible repeat (first | apply Kd.R_alloc | apply Kd.R_drewN | apply Kd.R_drew)); exact HO_8.out), (by (with_reducible repeat (first | refine blk_drewN ?_ _ | refine blk_drew ?_ | refine blk_alloc ?_ _)); exact BK200.out), (by repeat (first | (with_reducible first | exact HB.out | apply below_alloc | apply pw_below_drewN | apply below_drew1 | refine below_set ?_ GE200.out) | exact HB.out))⟩)
                                 ·skip
                                  refine Kd.R_lit_step k33 _ 33 ?hg (N := 120) ?hd (xs := ([(⟨3, 0, 3⟩ : S33), (⟨1, ((rd_T33 l0 (ji34)).f1), 0⟩ : S33)] : List (S33))) (inner := [.int .i64 3, .int .i64 0, .int .i64 3, .int .i64 1, .int .i64 ((rd_T33 l0 (ji34)).f1), .int .i64 0]) (ok := fun _ => True) (okp := fun _ => True) ?hr ?hp (fun _ hk => hk) trivial (Below.refl _ _) (Nat.le_refl _) (by simp) ?_; (case hd => rfl); (case hg => rfl); (case hr => first | (go_simp; done) | (go_simp; rfl)); (case hp => exact (Reps.c3 (show Kd.M k33 _ _ _ (⟨3, 0, 3⟩ : S33) [.int .i64 3, .int .i64 0, .int .i64 3] from (k33_mkM _ _ _ (⟨3, 0, 3⟩ : S33) )) (Reps.c3 (show Kd.M k33 _ _ _ (⟨1, ((rd_T33 l0 (ji34)).f1), 0⟩ : S33) [.int .i64 1, .int .i64 ((rd_T33 l0 (ji34)).f1), .int .i64 0] from (k33_mkM _ _ _ (⟨1, ((rd_T33 l0 (ji34)).f1), 0⟩ : S33) )) (Reps.none _ _))))
                                  intro v222 w92 ho93 hb hg_ hnew_
                                  clear hg_ hnew_
                                  (first | rw [← Ny221.out] at ho93 | (simp only [Int.reduceToNat] at ho93; rw [← Ny221.out] at ho93))
                                  have n0_ := Aside0.mk (Kd.R_below (by (with_reducible repeat (first | apply Kd.R_alloc | apply Kd.R_drewN | apply Kd.R_drew)); exact HO_5.out) hb)
                                  have n1_ := Aside0.mk (Kd.R_below (by (with_reducible repeat (first | apply Kd.R_alloc | apply Kd.R_drewN | apply Kd.R_drew)); exact HO_8.out) hb)
                                  have n2_ := Aside0.mk (Kd.R_elder' (by (with_reducible repeat (first | apply Kd.R_alloc | apply Kd.R_drewN | apply Kd.R_drew)); exact HO213.out) (Kd.R_base ho93) hb)
                                  have n3_ := Aside0.mk (Kd.R_lower (Kd.R_newB (Kd.R_new' ho93 (Kd.R_lt (by (with_reducible repeat (first | apply Kd.R_alloc | apply Kd.R_drewN | apply Kd.R_drew)); exact HO213.out))) (g := gb200) (o := .cells #[.int .i64 ((rd_T33 l0 (ji34)).f0), .int .i64 ((rd_T33 l0 (ji34)).f1), .int .i64 ((rd_T33 l0 (ji34)).f2)] 33 (0, 0)) (by (with_reducible repeat (first | refine blk_drewN ?_ _ | refine blk_drew ?_ | refine blk_alloc ?_ _)); exact BK200.out)) (below_size (by repeat (first | (with_reducible first | exact HB.out | apply below_alloc | apply pw_below_drewN | apply below_drew1 | refine below_set ?_ GE200.out) | exact HB.out))))
                                  have n4_ := Aside0.mk (blk_below (g := gb200) (o := .cells #[.int .i64 ((rd_T33 l0 (ji34)).f0), .int .i64 ((rd_T33 l0 (ji34)).f1), .int .i64 ((rd_T33 l0 (ji34)).f2)] 33 (0, 0)) (by (with_reducible repeat (first | refine blk_drewN ?_ _ | refine blk_drew ?_ | refine blk_alloc ?_ _)); exact BK200.out) hb)
                                  have n5_ := Aside0.mk (below_step (by repeat (first | (with_reducible first | exact HB.out | apply below_alloc | apply pw_below_drewN | apply below_drew1 | refine below_set ?_ GE200.out) | exact HB.out)) hb)
                                  clear HO_5
                                  clear HO_8
                                  clear HO213
                                  clear BK200
                                  clear HB
                                  have HO_5 := n0_
                                  have HO_8 := n1_
                                  have HO213 := n2_
                                  have HO223 := n3_
                                  have BK200 := n4_
                                  have HB := n5_
                                  clear n0_ n1_ n2_ n3_ n4_ n5_
                                  clear hb ho93
                                  refine hK.out _ _ ⟨(blk_cell BK200.out 0).trans rfl, (blk_cell BK200.out 1).trans rfl, (blk_cell BK200.out 2).trans rfl⟩ (fun hHeld => ?_)
                                  clear hK K
                                  refine norm_ (a' := ?_) ?_ ?_
                                  rotate_left
                                  ·show Act.put _ (some 120) _ = _
                                   simp only [Act.put, List.setIfInBounds_toArray, List.set_cons_zero, List.set_cons_succ, i64_w, i32_w]
                                   rfl
                                  refine one_ (i := 4) (N := some 115) #[true, true, true, true, true, true, true, true, true, true, false, true, false, false, false, false, false, false] rfl rfl (one_of HT_.out (by kernel_rfl)) (by decide) (fun K hK => ?_)
                                  refine Kd.R_append_rows_step k33 (w0 := w) w.heap.size (by rfl) (.tmp 111) (.tmp 114) 22 33 (.agg #[(.int .i64 0), (.int .i64 0), (.int .i64 0)]) 24 rfl Try.underlying22 info33 rfl (by decide) (by omega) v212 y211 y214 _ _ _ (fun k_ => some k_ ≠ (v222 : Value).ownBlock ∧ k_ ≠ gb200) (fun _ => False) rfl rfl ?aO ?aR (fun _ _ h => h) (fun _ h => h.elim) ?aF ?aB ?aS ?aL ?_
                                  (case aR => repeat (first | exact (Kd.C_below HR217.out HB.out) | (with_reducible refine Kd.C_alloc ?_ _) | (with_reducible refine Kd.C_drewN ?_ _) | (with_reducible refine Kd.C_drew ?_)))
                                  (case aB => exact (by repeat (first | (with_reducible first | exact HB.out | apply below_alloc | apply pw_below_drewN | apply below_drew1 | refine below_set ?_ GE200.out) | exact HB.out)))
                                  (case aF => exact (fun k_ hk => ⟨Kd.fresh' (Kd.R_lt (by (with_reducible repeat (first | apply Kd.R_alloc | apply Kd.R_drewN | apply Kd.R_drew)); exact HO223.out)) k_ hk, Kd.freshB (g := gb200) (o := .cells #[.int .i64 ((rd_T33 l0 (ji34)).f0), .int .i64 ((rd_T33 l0 (ji34)).f1), .int .i64 ((rd_T33 l0 (ji34)).f2)] 33 (0, 0)) (by (with_reducible repeat (first | refine blk_drewN ?_ _ | refine blk_drew ?_ | refine blk_alloc ?_ _)); exact BK200.out) k_ hk⟩))
                                  (case aO => exact (by (with_reducible repeat (first | apply Kd.R_alloc | apply Kd.R_drewN | apply Kd.R_drew)); exact Kd.R_mono HO213.out (fun _ hk => ⟨hk.2, hk.1.2⟩)))
                                  (case aS => exact (below_size (by repeat (first | (with_reducible first | exact HB.out | apply below_alloc | apply pw_below_drewN | apply below_drew1 | refine below_set ?_ GE200.out) | exact HB.out))))
                                  (case aL => have := LMc68.out; omega)
                                  intro v219 w94 ho hb hg hat
                                  rw [← Ny218.out] at ho
                                  have n0_ := Aside0.mk (Kd.R_over' (by (with_reducible repeat (first | apply Kd.R_alloc | apply Kd.R_drewN | apply Kd.R_drew)); exact HO_5.out) (Kd.R_typed (by (with_reducible repeat (first | apply Kd.R_alloc | apply Kd.R_drewN | apply Kd.R_drew)); exact HO213.out)) (by decide) hg)
                                  have n1_ := Aside0.mk (Kd.R_over' (by (with_reducible repeat (first | apply Kd.R_alloc | apply Kd.R_drewN | apply Kd.R_drew)); exact HO_8.out) (Kd.R_typed (by (with_reducible repeat (first | apply Kd.R_alloc | apply Kd.R_drewN | apply Kd.R_drew)); exact HO213.out)) (by decide) hg)
                                  have n2_ := Aside0.mk (blk_grown (g := gb200) (o := .cells #[.int .i64 ((rd_T33 l0 (ji34)).f0), .int .i64 ((rd_T33 l0 (ji34)).f1), .int .i64 ((rd_T33 l0 (ji34)).f2)] 33 (0, 0)) (by (with_reducible repeat (first | refine blk_drewN ?_ _ | refine blk_drew ?_ | refine blk_alloc ?_ _)); exact BK200.out) hg (Kd.R_away HO213.out (fun _ hk => hk.1.2)))
                                  have n3_ := Aside0.mk (Kd.R_after (ok := (fun k_ => k_ ≠ gb200)) (by (with_reducible repeat (first | apply Kd.R_alloc | apply Kd.R_drewN | apply Kd.R_drew)); exact Kd.R_mono HO223.out (fun _ hk => ⟨hk.2, hk.1.2⟩)) hg hat)
                                  have n4_ := Aside0.mk (hb)
                                  have n5_ := Aside0.mk (ho)
                                  clear HO_5
                                  clear HO_8
                                  clear BK200
                                  clear HO223
                                  clear HB
                                  clear HO213
                                  have HO_5 := n0_
                                  have HO_8 := n1_
                                  have BK200 := n2_
                                  have HO223 := n3_
                                  have HB := n4_
                                  have HO220 := n5_
                                  clear n0_ n1_ n2_ n3_ n4_ n5_
                                  clear ho hb hg hat
                                  refine hK.out _ _ ⟨(blk_cell BK200.out 0).trans rfl, (blk_cell BK200.out 1).trans rfl, (blk_cell BK200.out 2).trans rfl⟩ (fun hHeld => ?_)
                                  clear hK K
                                  refine norm_ (a' := ?_) ?_ ?_
                                  rotate_left
                                  ·show Act.put _ (some 115) _ = _
                                   simp only [Act.put, List.setIfInBounds_toArray, List.set_cons_zero, List.set_cons_succ, i64_w, i32_w]
                                   rfl
                                  exact norm_ (by simp only [putAll, Act.put, List.setIfInBounds_toArray, List.set_cons_zero, List.set_cons_succ]) (hCont (v212, v219, v222) _ ⟨hHeld, (by (with_reducible repeat (first | apply Kd.R_alloc | apply Kd.R_drewN | apply Kd.R_drew)); exact HO220.out), (by (with_reducible repeat (first | apply Kd.R_alloc | apply Kd.R_drewN | apply Kd.R_drew)); exact Kd.R_mono HO223.out (fun _ hk => ⟨hk.2, hk.1⟩)), (by (with_reducible repeat (first | apply Kd.R_alloc | apply Kd.R_drewN | apply Kd.R_drew)); exact HO_5.out), (by (with_reducible repeat (first | apply Kd.R_alloc | apply Kd.R_drewN | apply Kd.R_drew)); exact HO_8.out), (by (with_reducible repeat (first | refine blk_drewN ?_ _ | refine blk_drew ?_ | refine blk_alloc ?_ _)); exact BK200.out), (by repeat (first | (with_reducible first | exact HB.out | apply below_alloc | apply pw_below_drewN | apply below_drew1 | refine below_set ?_ GE200.out) | exact HB.out))⟩)
                                ·skip
                                 refine Kd.R_lit_step k33 _ 33 ?hg (N := 120) ?hd (xs := ([(⟨3, 0, 3⟩ : S33), (⟨1, ((rd_T33 l0 (ji34)).f1), 0⟩ : S33)] : List (S33))) (inner := [.int .i64 3, .int .i64 0, .int .i64 3, .int .i64 1, .int .i64 ((rd_T33 l0 (ji34)).f1), .int .i64 0]) (ok := fun _ => True) (okp := fun _ => True) ?hr ?hp (fun _ hk => hk) trivial (Below.refl _ _) (Nat.le_refl _) (by simp) ?_; (case hd => rfl); (case hg => rfl); (case hr => first | (go_simp; done) | (go_simp; rfl)); (case hp => exact (Reps.c3 (show Kd.M k33 _ _ _ (⟨3, 0, 3⟩ : S33) [.int .i64 3, .int .i64 0, .int .i64 3] from (k33_mkM _ _ _ (⟨3, 0, 3⟩ : S33) )) (Reps.c3 (show Kd.M k33 _ _ _ (⟨1, ((rd_T33 l0 (ji34)).f1), 0⟩ : S33) [.int .i64 1, .int .i64 ((rd_T33 l0 (ji34)).f1), .int .i64 0] from (k33_mkM _ _ _ (⟨1, ((rd_T33 l0 (ji34)).f1), 0⟩ : S33) )) (Reps.none _ _))))
                                 intro v222 w90 ho91 hb hg_ hnew_
                                 clear hg_ hnew_
                                 (first | rw [← Ny221.out] at ho91 | (simp only [Int.reduceToNat] at ho91; rw [← Ny221.out] at ho91))
                                 have n0_ := Aside0.mk (Kd.R_below (by (with_reducible repeat (first | apply Kd.R_alloc | apply Kd.R_drewN | apply Kd.R_drew)); exact HO_5.out) hb)
                                 have n1_ := Aside0.mk (Kd.R_below (by (with_reducible repeat (first | apply Kd.R_alloc | apply Kd.R_drewN | apply Kd.R_drew)); exact HO_8.out) hb)
                                 have n2_ := Aside0.mk (Kd.R_lower (Kd.R_newB ho91 (g := gb200) (o := .cells #[.int .i64 ((rd_T33 l0 (ji34)).f0), .int .i64 ((rd_T33 l0 (ji34)).f1), .int .i64 ((rd_T33 l0 (ji34)).f2)] 33 (0, 0)) (by (with_reducible repeat (first | refine blk_drewN ?_ _ | refine blk_drew ?_ | refine blk_alloc ?_ _)); exact BK200.out)) (below_size (by repeat (first | (with_reducible first | exact HB.out | apply below_alloc | apply pw_below_drewN | apply below_drew1 | refine below_set ?_ GE200.out) | exact HB.out))))
                                 have n3_ := Aside0.mk (blk_below (g := gb200) (o := .cells #[.int .i64 ((rd_T33 l0 (ji34)).f0), .int .i64 ((rd_T33 l0 (ji34)).f1), .int .i64 ((rd_T33 l0 (ji34)).f2)] 33 (0, 0)) (by (with_reducible repeat (first | refine blk_drewN ?_ _ | refine blk_drew ?_ | refine blk_alloc ?_ _)); exact BK200.out) hb)
                                 have n4_ := Aside0.mk (below_step (by repeat (first | (with_reducible first | exact HB.out | apply below_alloc | apply pw_below_drewN | apply below_drew1 | refine below_set ?_ GE200.out) | exact HB.out)) hb)
                                 clear HO_5
                                 clear HO_8
                                 clear BK200
                                 clear HB
                                 have HO_5 := n0_
                                 have HO_8 := n1_
                                 have HO223 := n2_
                                 have BK200 := n3_
                                 have HB := n4_
                                 clear n0_ n1_ n2_ n3_ n4_
                                 clear hb ho91
                                 refine hK.out _ _ ⟨(blk_cell BK200.out 0).trans rfl, (blk_cell BK200.out 1).trans rfl, (blk_cell BK200.out 2).trans rfl⟩ (fun hHeld => ?_)
                                 clear hK K
                                 refine norm_ (a' := ?_) ?_ ?_
                                 rotate_left
                                 ·show Act.put _ (some 120) _ = _
                                  simp only [Act.put, List.setIfInBounds_toArray, List.set_cons_zero, List.set_cons_succ, i64_w, i32_w]
                                  rfl
                                 refine one_ (i := 0) (N := some 111) #[true, true, true, true, false, true, true, true, true, true, false, true, false, false, false, false, false, false] rfl rfl (one_of HT_.out (by kernel_rfl)) (by decide) (fun K hK => ?_)
                                 refine Kd.R_lit_step k33 _ 33 ?hg (N := 111) ?hd (xs := ([] : List (S33))) (inner := []) (ok := fun _ => True) (okp := fun _ => True) ?hr ?hp (fun _ hk => hk) trivial (Below.refl _ _) (Nat.le_refl _) (by simp) ?_; (case hd => rfl); (case hg => rfl); (case hr => first | (go_simp; done) | (go_simp; rfl)); (case hp => exact (Reps.none _ _))
                                 intro v212 w92 ho93 hb hg_ hnew_
                                 clear hg_ hnew_
                                 (first | rw [← Ny211.out] at ho93 | (simp only [Int.reduceToNat] at ho93; rw [← Ny211.out] at ho93))
                                 have n0_ := Aside0.mk (Kd.R_below (by (with_reducible repeat (first | apply Kd.R_alloc | apply Kd.R_drewN | apply Kd.R_drew)); exact HO_5.out) hb)
                                 have n1_ := Aside0.mk (Kd.R_below (by (with_reducible repeat (first | apply Kd.R_alloc | apply Kd.R_drewN | apply Kd.R_drew)); exact HO_8.out) hb)
                                 have n2_ := Aside0.mk (Kd.R_elder' (by (with_reducible repeat (first | apply Kd.R_alloc | apply Kd.R_drewN | apply Kd.R_drew)); exact HO223.out) (Kd.R_base ho93) hb)
                                 have n3_ := Aside0.mk (Kd.R_lower (Kd.R_newB (Kd.R_new' ho93 (Kd.R_lt (by (with_reducible repeat (first | apply Kd.R_alloc | apply Kd.R_drewN | apply Kd.R_drew)); exact HO223.out))) (g := gb200) (o := .cells #[.int .i64 ((rd_T33 l0 (ji34)).f0), .int .i64 ((rd_T33 l0 (ji34)).f1), .int .i64 ((rd_T33 l0 (ji34)).f2)] 33 (0, 0)) (by (with_reducible repeat (first | refine blk_drewN ?_ _ | refine blk_drew ?_ | refine blk_alloc ?_ _)); exact BK200.out)) (below_size (by repeat (first | (with_reducible first | exact HB.out | apply below_alloc | apply pw_below_drewN | apply below_drew1 | refine below_set ?_ GE200.out) | exact HB.out))))
                                 have n4_ := Aside0.mk (blk_below (g := gb200) (o := .cells #[.int .i64 ((rd_T33 l0 (ji34)).f0), .int .i64 ((rd_T33 l0 (ji34)).f1), .int .i64 ((rd_T33 l0 (ji34)).f2)] 33 (0, 0)) (by (with_reducible repeat (first | refine blk_drewN ?_ _ | refine blk_drew ?_ | refine blk_alloc ?_ _)); exact BK200.out) hb)
                                 have n5_ := Aside0.mk (below_step (by repeat (first | (with_reducible first | exact HB.out | apply below_alloc | apply pw_below_drewN | apply below_drew1 | refine below_set ?_ GE200.out) | exact HB.out)) hb)
                                 clear HO_5
                                 clear HO_8
                                 clear HO223
                                 clear BK200
                                 clear HB
                                 have HO_5 := n0_
                                 have HO_8 := n1_
                                 have HO223 := n2_
                                 have HO213 := n3_
                                 have BK200 := n4_
                                 have HB := n5_
                                 clear n0_ n1_ n2_ n3_ n4_ n5_
                                 clear hb ho93
                                 refine hK.out _ _ ⟨(blk_cell BK200.out 0).trans rfl, (blk_cell BK200.out 1).trans rfl, (blk_cell BK200.out 2).trans rfl⟩ (fun hHeld => ?_)
                                 clear hK K
                                 refine norm_ (a' := ?_) ?_ ?_
                                 rotate_left
                                 ·show Act.put _ (some 111) _ = _
                                  simp only [Act.put, List.setIfInBounds_toArray, List.set_cons_zero, List.set_cons_succ, i64_w, i32_w]
                                  rfl
                                 refine one_ (i := 4) (N := some 115) #[true, true, true, true, true, true, true, true, true, true, false, true, false, false, false, false, false, false] rfl rfl (one_of HT_.out (by kernel_rfl)) (by decide) (fun K hK => ?_)
                                 refine Kd.R_append_rows_step k33 (w0 := w) w.heap.size (by rfl) (.tmp 111) (.tmp 114) 22 33 (.agg #[(.int .i64 0), (.int .i64 0), (.int .i64 0)]) 24 rfl Try.underlying22 info33 rfl (by decide) (by omega) v212 y211 y214 _ _ _ (fun k_ => some k_ ≠ (v222 : Value).ownBlock ∧ k_ ≠ gb200) (fun _ => False) rfl rfl ?aO ?aR (fun _ _ h => h) (fun _ h => h.elim) ?aF ?aB ?aS ?aL ?_
                                 (case aR => repeat (first | exact (Kd.C_below HR217.out HB.out) | (with_reducible refine Kd.C_alloc ?_ _) | (with_reducible refine Kd.C_drewN ?_ _) | (with_reducible refine Kd.C_drew ?_)))
                                 (case aB => exact (by repeat (first | (with_reducible first | exact HB.out | apply below_alloc | apply pw_below_drewN | apply below_drew1 | refine below_set ?_ GE200.out) | exact HB.out)))
                                 (case aF => exact (fun k_ hk => ⟨Kd.fresh' (Kd.R_lt (by (with_reducible repeat (first | apply Kd.R_alloc | apply Kd.R_drewN | apply Kd.R_drew)); exact HO223.out)) k_ hk, Kd.freshB (g := gb200) (o := .cells #[.int .i64 ((rd_T33 l0 (ji34)).f0), .int .i64 ((rd_T33 l0 (ji34)).f1), .int .i64 ((rd_T33 l0 (ji34)).f2)] 33 (0, 0)) (by (with_reducible repeat (first | refine blk_drewN ?_ _ | refine blk_drew ?_ | refine blk_alloc ?_ _)); exact BK200.out) k_ hk⟩))
                                 (case aO => exact (by (with_reducible repeat (first | apply Kd.R_alloc | apply Kd.R_drewN | apply Kd.R_drew)); exact Kd.R_mono HO213.out (fun _ hk => ⟨hk.1.2, hk.2⟩)))
                                 (case aS => exact (below_size (by repeat (first | (with_reducible first | exact HB.out | apply below_alloc | apply pw_below_drewN | apply below_drew1 | refine below_set ?_ GE200.out) | exact HB.out))))
                                 (case aL => have := LMc68.out; omega)
                                 intro v219 w94 ho hb hg hat
                                 rw [← Ny218.out] at ho
                                 have n0_ := Aside0.mk (Kd.R_over' (by (with_reducible repeat (first | apply Kd.R_alloc | apply Kd.R_drewN | apply Kd.R_drew)); exact HO_5.out) (Kd.R_typed (by (with_reducible repeat (first | apply Kd.R_alloc | apply Kd.R_drewN | apply Kd.R_drew)); exact HO213.out)) (by decide) hg)
                                 have n1_ := Aside0.mk (Kd.R_over' (by (with_reducible repeat (first | apply Kd.R_alloc | apply Kd.R_drewN | apply Kd.R_drew)); exact HO_8.out) (Kd.R_typed (by (with_reducible repeat (first | apply Kd.R_alloc | apply Kd.R_drewN | apply Kd.R_drew)); exact HO213.out)) (by decide) hg)
                                 have n2_ := Aside0.mk (blk_grown (g := gb200) (o := .cells #[.int .i64 ((rd_T33 l0 (ji34)).f0), .int .i64 ((rd_T33 l0 (ji34)).f1), .int .i64 ((rd_T33 l0 (ji34)).f2)] 33 (0, 0)) (by (with_reducible repeat (first | refine blk_drewN ?_ _ | refine blk_drew ?_ | refine blk_alloc ?_ _)); exact BK200.out) hg (Kd.R_away HO213.out (fun _ hk => hk.2)))
                                 have n3_ := Aside0.mk (Kd.R_after (ok := (fun k_ => k_ ≠ gb200)) (by (with_reducible repeat (first | apply Kd.R_alloc | apply Kd.R_drewN | apply Kd.R_drew)); exact Kd.R_mono HO223.out (fun _ hk => ⟨hk.1.2, hk.2⟩)) hg hat)
                                 have n4_ := Aside0.mk (hb)
                                 have n5_ := Aside0.mk (ho)
                                 clear HO_5
                                 clear HO_8
                                 clear BK200
                                 clear HO223
                                 clear HB
                                 clear HO213
                                 have HO_5 := n0_
                                 have HO_8 := n1_
                                 have BK200 := n2_
                                 have HO223 := n3_
                                 have HB := n4_
                                 have HO220 := n5_
                                 clear n0_ n1_ n2_ n3_ n4_ n5_
                                 clear ho hb hg hat
                                 refine hK.out _ _ ⟨(blk_cell BK200.out 0).trans rfl, (blk_cell BK200.out 1).trans rfl, (blk_cell BK200.out 2).trans rfl⟩ (fun hHeld => ?_)
                                 clear hK K
                                 refine norm_ (a' := ?_) ?_ ?_
                                 rotate_left
                                 ·show Act.put _ (some 115) _ = _
                                  simp only [Act.put, List.setIfInBounds_toArray, List.set_cons_zero, List.set_cons_succ, i64_w, i32_w]
                                  rfl
                                 exact norm_ (by simp only [putAll, Act.put, List.setIfInBounds_toArray, List.set_cons_zero, List.set_cons_succ]) (hCont (v212, v219, v222) _ ⟨hHeld, (by (with_reducible repeat (first | apply Kd.R_alloc | apply Kd.R_drewN | apply Kd.R_drew)); exact HO220.out), (by (with_reducible repeat (first | apply Kd.R_alloc | apply Kd.R_drewN | apply Kd.R_drew)); exact Kd.R_mono HO223.out (fun _ hk => ⟨hk.2, hk.1⟩)), (by (with_reducible repeat (first | apply Kd.R_alloc | apply Kd.R_drewN | apply Kd.R_drew)); exact HO_5.out), (by (with_reducible repeat (first | apply Kd.R_alloc | apply Kd.R_drewN | apply Kd.R_drew)); exact HO_8.out), (by (with_reducible repeat (first | refine blk_drewN ?_ _ | refine blk_drew ?_ | refine blk_alloc ?_ _)); exact BK200.out), (by repeat (first | (with_reducible first | exact HB.out | apply below_alloc | apply pw_below_drewN | apply below_drew1 | refine below_set ?_ GE200.out) | exact HB.out))⟩)
                               rintro ⟨v212, v219, v222⟩ w95 ⟨hS_, h0_, h1_, h2_, h3_, h4_, h5_⟩
                               have n0_ : Aside0 (Kd.R k33 33 w95 w.heap.size (fun k_ => some k_ ≠ (v222 : Value).ownBlock ∧ k_ ≠ gb200) v219 y218) := ⟨h0_⟩
                               have n1_ : Aside0 (Kd.R k33 33 w95 w.heap.size (fun k_ => some k_ ≠ (v219 : Value).ownBlock ∧ k_ ≠ gb200) v222 y221) := ⟨h1_⟩
                               have n2_ : Aside0 (Kd.R (Kd.int .i64) 2 w95 w.heap.size (fun k_ => some k_ ≠ (v196 : Value).ownBlock) v188 t186) := ⟨h2_⟩
                               have n3_ : Aside0 (Kd.R (Kd.int .i64) 2 w95 w.heap.size (fun k_ => some k_ ≠ (v188 : Value).ownBlock) v196 t194) := ⟨h3_⟩
                               have n4_ : Aside0 (w95.heap[gb200]? = some (.cells #[.int .i64 ((rd_T33 l0 (ji34)).f0), .int .i64 ((rd_T33 l0 (ji34)).f1), .int .i64 ((rd_T33 l0 (ji34)).f2)] 33 (0, 0))) := ⟨h4_⟩
                               have n5_ : Aside0 (Below w.heap.size w w95) := ⟨h5_⟩
                               clear HO_5
                               clear HO_8
                               clear BK200
                               clear HB
                               clear h0_ h1_ h2_ h3_ h4_ h5_
                               have HO220 := n0_
                               have HO223 := n1_
                               have HO_5 := n2_
                               have HO_8 := n3_
                               have BK200 := n4_
                               have HB := n5_
                               clear n0_ n1_ n2_ n3_ n4_ n5_
                               have hHeld : w95.cell? ⟨gb200, 0, none⟩ = some (.int .i64 ((rd_T33 l0 (ji34)).f0)) ∧ w95.cell? ⟨gb200, 1, none⟩ = some (.int .i64 ((rd_T33 l0 (ji34)).f1)) ∧ w95.cell? ⟨gb200, 2, none⟩ = some (.int .i64 ((rd_T33 l0 (ji34)).f2)) := hS_
                               obtain ⟨Ao97, co97, eo97⟩ := Kd.R_slice HO223.out
                               (first | subst eo97 | (injection eo97 with f1_ f2_ f3_; have f4_ := f1_.symm; have f5_ := f3_.symm; clear f1_ f2_ f3_; subst f4_; subst f5_))
                               refine norm_ (a' := ?_) ?_ ?_
                               rotate_left
                               ·simp only [putAll, Act.put, List.setIfInBounds_toArray, List.set_cons_zero, List.set_cons_succ]
                                rfl
                               refine one_ (i := 10) (N := some 121) #[true, true, true, true, true, true, true, true, true, true, true, true, false, false, false, false, false, false] rfl rfl (one_of HT_.out (by kernel_rfl)) (by decide) (fun K hK => ?_)
                               refine Kd.R_append_rows_step k33 (w0 := w) w.heap.size (by rfl) (.tmp 115) (.tmp 120) 22 33 (.agg #[(.int .i64 0), (.int .i64 0), (.int .i64 0)]) 24 rfl Try.underlying22 info33 rfl (by decide) (by omega) v219 y218 y221 _ _ _ (fun k_ => some k_ ≠ (.slice Ao97 y221.length co97 : Value).ownBlock ∧ k_ ≠ gb200) (fun _ => False) rfl rfl ?aO ?aR (fun _ _ h => h) (fun _ h => h.elim) ?aF ?aB ?aS ?aL ?_
                               (case aR => repeat (first | exact (Kd.R_reads' HO223.out).2.2 | (with_reducible refine Kd.C_alloc ?_ _) | (with_reducible refine Kd.C_drewN ?_ _) | (with_reducible refine Kd.C_drew ?_)))
                               (case aB => exact (by repeat (first | (with_reducible first | exact HB.out | apply below_alloc | apply pw_below_drewN | apply below_drew1 | refine below_set ?_ GE200.out) | exact HB.out)))
                               (case aF => exact (fun k_ hk => ⟨Kd.fresh' (Kd.R_lt (by (with_reducible repeat (first | apply Kd.R_alloc | apply Kd.R_drewN | apply Kd.R_drew)); exact HO223.out)) k_ hk, Kd.freshB (g := gb200) (o := .cells #[.int .i64 ((rd_T33 l0 (ji34)).f0), .int .i64 ((rd_T33 l0 (ji34)).f1), .int .i64 ((rd_T33 l0 (ji34)).f2)] 33 (0, 0)) (by (with_reducible repeat (first | refine blk_drewN ?_ _ | refine blk_drew ?_ | refine blk_alloc ?_ _)); exact BK200.out) k_ hk⟩))
                               (case aO => exact (by (with_reducible repeat (first | apply Kd.R_alloc | apply Kd.R_drewN | apply Kd.R_drew)); exact HO220.out))
                               (case aS => exact (below_size (by repeat (first | (with_reducible first | exact HB.out | apply below_alloc | apply pw_below_drewN | apply below_drew1 | refine below_set ?_ GE200.out) | exact HB.out))))
                               (case aL => have := LMc69.out; omega)
                               intro v225 w96 ho hb hg hat
                               rw [← Ny224.out] at ho
                               have n0_ := Aside0.mk (Kd.R_over' (by (with_reducible repeat (first | apply Kd.R_alloc | apply Kd.R_drewN | apply Kd.R_drew)); exact HO_5.out) (Kd.R_typed (by (with_reducible repeat (first | apply Kd.R_alloc | apply Kd.R_drewN | apply Kd.R_drew)); exact HO220.out)) (by decide) hg)
                               have n1_ := Aside0.mk (Kd.R_over' (by (with_reducible repeat (first | apply Kd.R_alloc | apply Kd.R_drewN | apply Kd.R_drew)); exact HO_8.out) (Kd.R_typed (by (with_reducible repeat (first | apply Kd.R_alloc | apply Kd.R_drewN | apply Kd.R_drew)); exact HO220.out)) (by decide) hg)
                               have n2_ := Aside0.mk (blk_grown (g := gb200) (o := .cells #[.int .i64 ((rd_T33 l0 (ji34)).f0), .int .i64 ((rd_T33 l0 (ji34)).f1), .int .i64 ((rd_T33 l0 (ji34)).f2)] 33 (0, 0)) (by (with_reducible repeat (first | refine blk_drewN ?_ _ | refine blk_drew ?_ | refine blk_alloc ?_ _)); exact BK200.out) hg (Kd.R_away HO220.out (fun _ hk => hk.2)))
                               have n3_ := Aside0.mk (Kd.R_after (ok := (fun k_ => k_ ≠ gb200)) (by (with_reducible repeat (first | apply Kd.R_alloc | apply Kd.R_drewN | apply Kd.R_drew)); exact Kd.R_mono HO223.out (fun _ hk => ⟨hk.2, hk.1⟩)) hg hat)
                               have n4_ := Aside0.mk (hb)
                               have n5_ := Aside0.mk (ho)
                               clear HO_5
                               clear HO_8
                               clear BK200
                               clear HO223
                               clear HB
                               clear HO220
                               have HO_5 := n0_
                               have HO_8 := n1_
                               have BK200 := n2_
                               have HO223 := n3_
                               have HB := n4_
                               have HO226 := n5_
                               clear n0_ n1_ n2_ n3_ n4_ n5_
                               clear ho hb hg hat
                               obtain ⟨Ao98, co98, eo98⟩ := Kd.R_slice HO226.out
                               (first | subst eo98 | (injection eo98 with f1_ f2_ f3_; have f4_ := f1_.symm; have f5_ := f3_.symm; clear f1_ f2_ f3_; subst f4_; subst f5_))
                               refine hK.out _ _ ⟨(blk_cell BK200.out 0).trans rfl, (blk_cell BK200.out 1).trans rfl, (blk_cell BK200.out 2).trans rfl⟩ (fun hHeld => ?_)
                               clear hK K
                               refine norm_ (a' := ?_) ?_ ?_
                               rotate_left
                               ·show Act.put _ (some 121) _ = _
                                simp only [Act.put, List.setIfInBounds_toArray, List.set_cons_zero, List.set_cons_succ, i64_w, i32_w]
                                rfl
                               refine one_ (i := 12) (N := some 123) #[true, true, true, true, true, true, true, true, true, true, true, true, true, false, false, false, false, false] rfl rfl (one_of HT_.out (by kernel_rfl)) (by decide) (fun K hK => ?_)
                               refine goes_ Try.func11 (by kernel_rfl) rfl #[.slice Ao98 y224.length co98, .slice A1 l1.length c1] (by rfl) rfl rfl (by (try simp only [List.map_toArray, List.map_cons, List.map_nil]); first | done | rfl | (simp only [List.length_drop, List.length_take]; rfl)) ?_
                               with_reducible refine (lang_Alone.calls _ _ y224 _ _ l1 t227 t228 _ ?side1 ?side2 ?side3 ?side4 A70.out).mono ?_
                               (case side1 => repeat (first | exact (Kd.R_reads' HO226.out).2.2 | (with_reducible refine Kd.C_alloc ?_ _) | (with_reducible refine Kd.C_drewN ?_ _) | (with_reducible refine Kd.C_drew ?_)))
                               (case side2 => exact (Kd.R_reads' HO226.out).2.1)
                               (case side3 => repeat (first | exact (Kd.C_below HR1.out HB.out) | (with_reducible refine Kd.C_alloc ?_ _) | (with_reducible refine Kd.C_drewN ?_ _) | (with_reducible refine Kd.C_drew ?_)))
                               (case side4 => exact HC1.out)
                               rintro e w99 ⟨v229, rfl, ho0, hb⟩
                               refine ⟨_, rfl, ?_⟩
                               have n0_ := Aside0.mk (Kd.R_elder' (by (with_reducible repeat (first | apply Kd.R_alloc | apply Kd.R_drewN | apply Kd.R_drew)); exact HO_5.out) (Kd.R_base ho0) hb)
                               have n1_ := Aside0.mk (Kd.R_elder' (by (with_reducible repeat (first | apply Kd.R_alloc | apply Kd.R_drewN | apply Kd.R_drew)); exact HO_8.out) (Kd.R_base ho0) hb)
                               have n2_ := Aside0.mk (Kd.R_below (by (with_reducible repeat (first | apply Kd.R_alloc | apply Kd.R_drewN | apply Kd.R_drew)); exact HO223.out) hb)
                               have n3_ := Aside0.mk (Kd.R_below (by (with_reducible repeat (first | apply Kd.R_alloc | apply Kd.R_drewN | apply Kd.R_drew)); exact HO226.out) hb)
                               have n4_ := Aside0.mk (Kd.R_lower (Kd.R_new' (Kd.R_new' ho0 (Kd.R_lt (by (with_reducible repeat (first | apply Kd.R_alloc | apply Kd.R_drewN | apply Kd.R_drew)); exact HO_5.out))) (Kd.R_lt (by (with_reducible repeat (first | apply Kd.R_alloc | apply Kd.R_drewN | apply Kd.R_drew)); exact HO_8.out))) (below_size (by repeat (first | (with_reducible first | exact HB.out | apply below_alloc | apply pw_below_drewN | apply below_drew1 | refine below_set ?_ GE200.out) | exact HB.out))))
                               have n5_ := Aside0.mk (blk_below (g := gb200) (o := .cells #[.int .i64 ((rd_T33 l0 (ji34)).f0), .int .i64 ((rd_T33 l0 (ji34)).f1), .int .i64 ((rd_T33 l0 (ji34)).f2)] 33 (0, 0)) (by (with_reducible repeat (first | refine blk_drewN ?_ _ | refine blk_drew ?_ | refine blk_alloc ?_ _)); exact BK200.out) hb)
                               have n6_ := Aside0.mk (below_step (by repeat (first | (with_reducible first | exact HB.out | apply below_alloc | apply pw_below_drewN | apply below_drew1 | refine below_set ?_ GE200.out) | exact HB.out)) hb)
                               clear HO_5
                               clear HO_8
                               clear HO223
                               clear HO226
                               clear BK200
                               clear HB
                               have HO_5 := n0_
                               have HO_8 := n1_
                               have HO223 := n2_
                               have HO226 := n3_
                               have HO230 := n4_
                               have BK200 := n5_
                               have HB := n6_
                               clear n0_ n1_ n2_ n3_ n4_ n5_ n6_
                               (try clear hb)
                               (try clear hb2)
                               (try clear hk)
                               (try clear hi)
                               (try clear ho0)
                               refine hK.out _ _ ⟨(blk_cell BK200.out 0).trans rfl, (blk_cell BK200.out 1).trans rfl, (blk_cell BK200.out 2).trans rfl⟩ (fun hHeld => ?_)
                               clear hK K
                               refine norm_ (a' := ?_) ?_ ?_
                               rotate_left
                               ·show Act.put _ (some 123) _ = _
                                simp only [Act.put, List.setIfInBounds_toArray, List.set_cons_zero, List.set_cons_succ, i64_w, i32_w]
                                rfl
                               refine pure_ (i := 13) (N := some 110) (v := ?_) (a' := ?_) #[true, true, true, true, true, true, true, true, true, true, true, true, true, true, false, false, false, false] rfl rfl (any_of HT_.out (by kernel_rfl)) (fun _ _ _ h => h) (Or.inl ⟨by rfl, ?_⟩) ?_ ?_
                               rotate_left
                               ·intro w'
                                go_simp
                                with_reducible rfl
                               rotate_left
                               ·simp only [Act.put, List.setIfInBounds_toArray, List.set_cons_zero, List.set_cons_succ, i64_w, i32_w]
                                rfl
                               refine pure_ (i := 14) (N := some 124) (v := ?_) (a' := ?_) #[true, true, true, true, true, true, true, true, true, true, true, true, true, true, true, false, false, false] rfl rfl (any_of HT_.out (by kernel_rfl)) (fun _ _ _ h => h) (Or.inl ⟨by rfl, ?_⟩) ?_ ?_
                               rotate_left
                               ·intro w'
                                go_simp
                                with_reducible rfl
                               rotate_left
                               ·simp only [Act.put, List.setIfInBounds_toArray, List.set_cons_zero, List.set_cons_succ, i64_w, i32_w]
                                rfl
                               refine pure_ (i := 15) (N := some 125) (v := ?_) (a' := ?_) #[true, true, true, true, true, true, true, true, true, true, true, true, true, true, true, true, false, false] rfl rfl (any_of HT_.out (by kernel_rfl)) (fun _ _ _ h => h) (Or.inl ⟨by rfl, ?_⟩) ?_ ?_
                               rotate_left
                               ·intro w'
                                go_simp
                                with_reducible rfl
                               rotate_left
                               ·simp only [Act.put, List.setIfInBounds_toArray, List.set_cons_zero, List.set_cons_succ, i64_w, i32_w]
                                rfl
                               refine pure_ (i := 16) (N := some 12) (v := ?_) (a' := ?_) #[true, true, true, true, true, true, true, true, true, true, true, true, true, true, true, true, true, false] rfl rfl (any_of HT_.out (by kernel_rfl)) (fun _ _ _ h => h) (Or.inl ⟨by rfl, ?_⟩) ?_ ?_
                               rotate_left
                               ·intro w'
                                go_simp
                                with_reducible rfl
                               rotate_left
                               ·simp only [Act.put, List.setIfInBounds_toArray, List.set_cons_zero, List.set_cons_succ, i64_w, i32_w]
                                rfl
                               refine pure_ (i := 17) (N := some 13) (v := ?_) (a' := ?_) #[true, true, true, true, true, true, true, true, true, true, true, true, true, true, true, true, true, true] rfl rfl (any_of HT_.out (by kernel_rfl)) (fun _ _ _ h => h) (Or.inl ⟨by rfl, ?_⟩) ?_ ?_
                               rotate_left
                               ·intro w'
                                go_simp
                                with_reducible rfl
                               rotate_left
                               ·simp only [Act.put, List.setIfInBounds_toArray, List.set_cons_zero, List.set_cons_succ, i64_w, i32_w]
                                rfl
                               refine done_ (done_of HT_.out (by kernel_rfl)) ?_
                               obtain ⟨Ao100, co100, eo100⟩ := Kd.R_slice HO230.out
                               subst eo100
                               obtain ⟨Ao101, co101, eo101⟩ := Kd.R_slice HO_8.out
                               subst eo101
                               try go_wp2_with (first | (go_at_call 12; (with_reducible refine (quarrelref01_Vals.calls kj60 _ _ t227 _ _ t194 false _ ?side1 ?side2 ?side3 ?side4 A72.out).mono ?_); (case side1 => repeat (first | exact (Kd.R_reads' HO230.out).2.2 | (with_reducible refine Kd.C_alloc ?_ _) | (with_reducible refine Kd.C_drewN ?_ _) | (with_reducible refine Kd.C_drew ?_))); (case side2 => exact (Kd.R_reads' HO230.out).2.1); (case side3 => repeat (first | exact (Kd.R_reads' HO_8.out).2.2 | (with_reducible refine Kd.C_alloc ?_ _) | (with_reducible refine Kd.C_drewN ?_ _) | (with_reducible refine Kd.C_drew ?_))); (case side4 => exact (Kd.R_reads' HO_8.out).2.1); rintro e w' ⟨rfl, ⟨nd, rfl⟩⟩))
                               go_ret
                               exact ⟨by first | rfl | (simp [errW_none, errW_some] <;> rfl) | (simp only [← hji34]; first | rfl | (simp [errW_none, errW_some] <;> rfl)) | (simp [*, errW_none, errW_some] <;> rfl), by repeat (first | (with_reducible first | exact HB.out | apply below_alloc | apply pw_below_drewN | apply below_drew1 | refine below_set ?_ GE200.out) | exact HB.out)⟩
                             ·rw [if_neg c71] at H
                              have c71b0 : (t228 == 0) = false := beq_eq_false_iff_ne.mpr c71
                              have c71b1 : (t228 != 0) = true := bne_iff_ne.mpr c71
                              obtain rfl := Option.some.inj H
                              try go_wp2
                              have n0_ := Aside0.mk (Kd.R_drew HO_5.out)
                              have n1_ := Aside0.mk (Kd.R_drew HO_8.out)
                              have n2_ := Aside0.mk (blk_drew BK200.out)
                              have n3_ := Aside0.mk (below_drew1 HB.out)
                              clear HO_5
                              clear HO_8
                              clear BK200
                              clear HB
                              have HO_5 := n0_
                              have HO_8 := n1_
                              have BK200 := n2_
                              have HB := n3_
                              clear n0_ n1_ n2_ n3_
                              have q103 : (x7_3 : Int) ≤ ((l0.length : Int) : Int) := of_decide_eq_true (by first | (with_reducible assumption) | assumption)
                              obtain ⟨i0103, hi0103, _, hsz103, _⟩ := info_parts info33
                              have hroom103 : l0.length ≤ c0 := HC0.out
                              have hC103 : Kd.C k33 _ (some ad199) l0.length l0 := HR0.out
                              (try clear hcut23)
                              (try clear hcut49)
                              (try clear hcut53)
                              (try clear hcut75)
                              (try clear hcut89)
                              have hcut103 := cut_to (P := Try.prog) 22 33 .i64 Try.underlying22 hi0103 (some ad199) l0.length c0 x7_3 (of_decide_eq_true (by first | (with_reducible assumption) | assumption)) q103 hroom103
                              have hr103 := Kd.C_take (m := (x7_3 : Int).toNat) hC103 (by omega)
                              have hy103 : y214.length = (x7_3 : Int).toNat := (by rw [Ny214.out, List.length_take]; omega)
                              rw [← Ny214.out] at hr103
                              rw [← hy103] at hcut103
                              have HR217 := Aside0.mk hr103
                              have HC217 := Aside0.mk (show y214.length ≤ c0 from by omega)
                              clear hr103 hC103 hroom103 hi0103 hsz103
                              have KY103 := Aside0.mk hy103
                              clear hy103
                              replace q103 := eq_true q103
                              refine start_ (n := 18) (S := fun w' => w'.cell? ⟨gb200, 0, none⟩ = some (.int .i64 ((rd_T33 l0 (ji34)).f0)) ∧ w'.cell? ⟨gb200, 1, none⟩ = some (.int .i64 ((rd_T33 l0 (ji34)).f1)) ∧ w'.cell? ⟨gb200, 2, none⟩ = some (.int .i64 ((rd_T33 l0 (ji34)).f2))) (ds := []) #[false, false, false, false, false, false, false, false, false, false, false, false, false, false, false, false, false, false] (by kernel_rfl) rfl rfl ⟨(blk_cell BK200.out 0).trans rfl, (blk_cell BK200.out 1).trans rfl, (blk_cell BK200.out 2).trans rfl⟩ (fun hHeld => ?_); refine with_tabW quarrellaw11_LangLast.tab24 quarrellaw11_LangLast.bits24 (fun HT_ HW_ => ?_)
                              generalize wc.drew = w102 at HO_5 HO_8 BK200 HB HR217 hHeld ⊢
                              refine pure_ (i := 1) (N := some 112) (v := ?_) (a' := ?_) #[false, true, false, false, false, false, false, false, false, false, false, false, false, false, false, false, false, false] rfl rfl (any_of HT_.out (by kernel_rfl)) (fun _ _ _ h => h) (Or.inl ⟨by rfl, ?_⟩) ?_ ?_
                              rotate_left
                              ·intro w'
                               go_simp
                               with_reducible rfl
                              rotate_left
                              ·simp only [Act.put, List.setIfInBounds_toArray, List.set_cons_zero, List.set_cons_succ, i64_w, i32_w]
                               rfl
                              refine pure_ (i := 2) (N := some 113) (v := ?_) (a' := ?_) #[false, true, true, false, false, false, false, false, false, false, false, false, false, false, false, false, false, false] rfl rfl (any_of HT_.out (by kernel_rfl)) (fun _ _ _ h => h) (Or.inl ⟨by rfl, ?_⟩) ?_ ?_
                              rotate_left
                              ·intro w'
                               go_simp
                               with_reducible rfl
                              rotate_left
                              ·simp only [Act.put, List.setIfInBounds_toArray, List.set_cons_zero, List.set_cons_succ, i64_w, i32_w]
                               rfl
                              refine pure_ (i := 3) (N := some 114) (v := ?_) (a' := ?_) #[false, true, true, true, false, false, false, false, false, false, false, false, false, false, false, false, false, false] rfl rfl (any_of HT_.out (by kernel_rfl)) (fun _ _ _ h => h) (Or.inl ⟨by rfl, ?_⟩) ?_ ?_
                              rotate_left
                              ·intro w'
                               go_simp
                               with_reducible rfl
                              rotate_left
                              ·simp only [Act.put, List.setIfInBounds_toArray, List.set_cons_zero, List.set_cons_succ, i64_w, i32_w]
                               rfl
                              refine pure_ (i := 5) (N := some 116) (v := ?_) (a' := ?_) #[false, true, true, true, false, true, false, false, false, false, false, false, false, false, false, false, false, false] rfl rfl (any_of HT_.out (by kernel_rfl)) (fun _ _ _ h => h) (Or.inl ⟨by rfl, ?_⟩) ?_ ?_
                              rotate_left
                              ·intro w'
                               go_simp
                               with_reducible rfl
                              rotate_left
                              ·simp only [Act.put, List.setIfInBounds_toArray, List.set_cons_zero, List.set_cons_succ, i64_w, i32_w]
                               rfl
                              refine pure_ (i := 6) (N := some 117) (v := ?_) (a' := ?_) #[false, true, true, true, false, true, true, false, false, false, false, false, false, false, false, false, false, false] rfl rfl (any_of HT_.out (by kernel_rfl)) (fun _ _ _ h => h) (Or.inl ⟨by rfl, ?_⟩) ?_ ?_
                              rotate_left
                              ·intro w'
                               go_simp
                               with_reducible rfl
                              rotate_left
                              ·simp only [Act.put, List.setIfInBounds_toArray, List.set_cons_zero, List.set_cons_succ, i64_w, i32_w]
                               rfl
                              refine pure_ (i := 11) (N := some 122) (v := ?_) (a' := ?_) #[false, true, true, true, false, true, true, false, false, false, false, true, false, false, false, false, false, false] rfl rfl (any_of HT_.out (by kernel_rfl)) (fun _ _ _ h => h) (Or.inl ⟨by rfl, ?_⟩) ?_ ?_
                              rotate_left
                              ·intro w'
                               go_simp
                               with_reducible rfl
                              rotate_left
                              ·simp only [Act.put, List.setIfInBounds_toArray, List.set_cons_zero, List.set_cons_succ, i64_w, i32_w]
                               rfl
                              refine take_ (i := 7) (N := some 118) (v := ?_) (a' := ?_) #[false, true, true, true, false, true, true, true, false, false, false, true, false, false, false, false, false, false] rfl rfl (take_ofW HT_.out HW_.out (by kernel_rfl)) (fun _ _ _ h => h) (Or.inl ⟨by rfl, ?_⟩) hHeld ?_ ?_
                              rotate_left
                              ·rintro w' ⟨s0, s1, s2⟩
                               go_simp
                               with_reducible rfl
                              rotate_left
                              ·simp only [Act.put, List.setIfInBounds_toArray, List.set_cons_zero, List.set_cons_succ, i64_w, i32_w]
                               rfl
                              refine pure_ (i := 8) (N := some 119) (v := ?_) (a' := ?_) #[false, true, true, true, false, true, true, true, true, false, false, true, false, false, false, false, false, false] rfl rfl (any_of HT_.out (by kernel_rfl)) (fun _ _ _ h => h) (Or.inl ⟨by rfl, ?_⟩) ?_ ?_
                              rotate_left
                              ·intro w'
                               go_simp
                               with_reducible rfl
                              rotate_left
                              ·simp only [Act.put, List.setIfInBounds_toArray, List.set_cons_zero, List.set_cons_succ, i64_w, i32_w]
                               rfl
                              refine join_ (σ := Value × Value × Value) 7 #[true, true, true, true, true, true, true, true, true, true, false, true, false, false, false, false, false, false] (fun s_ => [(111, s_.1), (115, s_.2.1), (120, s_.2.2)]) (fun s_ w' => (w'.cell? ⟨gb200, 0, none⟩ = some (.int .i64 ((rd_T33 l0 (ji34)).f0)) ∧ w'.cell? ⟨gb200, 1, none⟩ = some (.int .i64 ((rd_T33 l0 (ji34)).f1)) ∧ w'.cell? ⟨gb200, 2, none⟩ = some (.int .i64 ((rd_T33 l0 (ji34)).f2))) ∧ (Kd.R k33 33 w' w.heap.size (fun k_ => some k_ ≠ (s_.2.2 : Value).ownBlock ∧ k_ ≠ gb200) s_.2.1 y218) ∧ (Kd.R k33 33 w' w.heap.size (fun k_ => some k_ ≠ (s_.2.1 : Value).ownBlock ∧ k_ ≠ gb200) s_.2.2 y221) ∧ (Kd.R (Kd.int .i64) 2 w' w.heap.size (fun k_ => some k_ ≠ (v196 : Value).ownBlock) v188 t186) ∧ (Kd.R (Kd.int .i64) 2 w' w.heap.size (fun k_ => some k_ ≠ (v188 : Value).ownBlock) v196 t194) ∧ (w'.heap[gb200]? = some (.cells #[.int .i64 ((rd_T33 l0 (ji34)).f0), .int .i64 ((rd_T33 l0 (ji34)).f1), .int .i64 ((rd_T33 l0 (ji34)).f2)] 33 (0, 0))) ∧ (Below w.heap.size w w')) ?_ ?_
                              rotate_left
                              ·intro hCont
                               refine two_ (i := 0) (j := 9) (Ni := some 111) (Nj := some 120) #[true, true, true, true, false, true, true, true, true, false, false, true, false, false, false, false, false, false] #[false, true, true, true, false, true, true, true, true, true, false, true, false, false, false, false, false, false] rfl rfl rfl rfl (two_of HT_.out (by kernel_rfl)) (by decide) (by decide) (fun K hK => ?_) (fun K hK => ?_)
                               ·skip
                                refine Kd.R_lit_step k33 _ 33 ?hg (N := 111) ?hd (xs := ([] : List (S33))) (inner := []) (ok := fun _ => True) (okp := fun _ => True) ?hr ?hp (fun _ hk => hk) trivial (Below.refl _ _) (Nat.le_refl _) (by simp) ?_; (case hd => rfl); (case hg => rfl); (case hr => first | (go_simp; done) | (go_simp; rfl)); (case hp => exact (Reps.none _ _))
                                intro v212 w104 ho105 hb hg_ hnew_
                                clear hg_ hnew_
                                (first | rw [← Ny211.out] at ho105 | (simp only [Int.reduceToNat] at ho105; rw [← Ny211.out] at ho105))
                                have n0_ := Aside0.mk (Kd.R_below (by (with_reducible repeat (first | apply Kd.R_alloc | apply Kd.R_drewN | apply Kd.R_drew)); exact HO_5.out) hb)
                                have n1_ := Aside0.mk (Kd.R_below (by (with_reducible repeat (first | apply Kd.R_alloc | apply Kd.R_drewN | apply Kd.R_drew)); exact HO_8.out) hb)
                                have n2_ := Aside0.mk (Kd.R_lower (Kd.R_newB ho105 (g := gb200) (o := .cells #[.int .i64 ((rd_T33 l0 (ji34)).f0), .int .i64 ((rd_T33 l0 (ji34)).f1), .int .i64 ((rd_T33 l0 (ji34)).f2)] 33 (0, 0)) (by (with_reducible repeat (first | refine blk_drewN ?_ _ | refine blk_drew ?_ | refine blk_alloc ?_ _)); exact BK200.out)) (below_size (by repeat (first | (with_reducible first | exact HB.out | apply below_alloc | apply pw_below_drewN | apply below_drew1 | refine below_set ?_ GE200.out) | exact HB.out))))
                                have n3_ := Aside0.mk (blk_below (g := gb200) (o := .cells #[.int .i64 ((rd_T33 l0 (ji34)).f0), .int .i64 ((rd_T33 l0 (ji34)).f1), .int .i64 ((rd_T33 l0 (ji34)).f2)] 33 (0, 0)) (by (with_reducible repeat (first | refine blk_drewN ?_ _ | refine blk_drew ?_ | refine blk_alloc ?_ _)); exact BK200.out) hb)
                                have n4_ := Aside0.mk (below_step (by repeat (first | (with_reducible first | exact HB.out | apply below_alloc | apply pw_below_drewN | apply below_drew1 | refine below_set ?_ GE200.out) | exact HB.out)) hb)
                                clear HO_5
                                clear HO_8
                                clear BK200
                                clear HB
                                have HO_5 := n0_
                                have HO_8 := n1_
                                have HO213 := n2_
                                have BK200 := n3_
                                have HB := n4_
                                clear n0_ n1_ n2_ n3_ n4_
                                clear hb ho105
                                refine hK.out _ _ ⟨(blk_cell BK200.out 0).trans rfl, (blk_cell BK200.out 1).trans rfl, (blk_cell BK200.out 2).trans rfl⟩ (fun hHeld => ?_)
                                clear hK K
                                refine norm_ (a' := ?_) ?_ ?_
                                rotate_left
                                ·show Act.put _ (some 111) _ = _
                                 simp only [Act.put, List.setIfInBounds_toArray, List.set_cons_zero, List.set_cons_succ, i64_w, i32_w]
                                 rfl
                                refine two_ (i := 4) (j := 9) (Ni := some 115) (Nj := some 120) #[true, true, true, true, true, true, true, true, true, false, false, true, false, false, false, false, false, false] #[true, true, true, true, false, true, true, true, true, true, false, true, false, false, false, false, false, false] rfl rfl rfl rfl (two_of HT_.out (by kernel_rfl)) (by decide) (by decide) (fun K hK => ?_) (fun K hK => ?_)
                                ·skip
                                 refine Kd.R_append_rows_step k33 (w0 := w) w.heap.size (by rfl) (.tmp 111) (.tmp 114) 22 33 (.agg #[(.int .i64 0), (.int .i64 0), (.int .i64 0)]) 24 rfl Try.underlying22 info33 rfl (by decide) (by omega) v212 y211 y214 _ _ _ (fun k_ => k_ ≠ gb200) (fun _ => False) rfl rfl ?aO ?aR (fun _ _ h => h) (fun _ h => h.elim) ?aF ?aB ?aS ?aL ?_
                                 (case aR => repeat (first | exact (Kd.C_below HR217.out HB.out) | (with_reducible refine Kd.C_alloc ?_ _) | (with_reducible refine Kd.C_drewN ?_ _) | (with_reducible refine Kd.C_drew ?_)))
                                 (case aB => exact (by repeat (first | (with_reducible first | exact HB.out | apply below_alloc | apply pw_below_drewN | apply below_drew1 | refine below_set ?_ GE200.out) | exact HB.out)))
                                 (case aF => exact (fun k_ hk => Kd.freshB (g := gb200) (o := .cells #[.int .i64 ((rd_T33 l0 (ji34)).f0), .int .i64 ((rd_T33 l0 (ji34)).f1), .int .i64 ((rd_T33 l0 (ji34)).f2)] 33 (0, 0)) (by (with_reducible repeat (first | refine blk_drewN ?_ _ | refine blk_drew ?_ | refine blk_alloc ?_ _)); exact BK200.out) k_ hk))
                                 (case aO => exact (by (with_reducible repeat (first | apply Kd.R_alloc | apply Kd.R_drewN | apply Kd.R_drew)); exact Kd.R_mono HO213.out (fun _ hk => hk.2)))
                                 (case aS => exact (below_size (by repeat (first | (with_reducible first | exact HB.out | apply below_alloc | apply pw_below_drewN | apply below_drew1 | refine below_set ?_ GE200.out) | exact HB.out))))
                                 (case aL => have := LMc68.out; omega)
                                 intro v219 w106 ho hb hg hat
                                 rw [← Ny218.out] at ho
                                 have n0_ := Aside0.mk (Kd.R_over' (by (with_reducible repeat (first | apply Kd.R_alloc | apply Kd.R_drewN | apply Kd.R_drew)); exact HO_5.out) (Kd.R_typed (by (with_reducible repeat (first | apply Kd.R_alloc | apply Kd.R_drewN | apply Kd.R_drew)); exact HO213.out)) (by decide) hg)
                                 have n1_ := Aside0.mk (Kd.R_over' (by (with_reducible repeat (first | apply Kd.R_alloc | apply Kd.R_drewN | apply Kd.R_drew)); exact HO_8.out) (Kd.R_typed (by (with_reducible repeat (first | apply Kd.R_alloc | apply Kd.R_drewN | apply Kd.R_drew)); exact HO213.out)) (by decide) hg)
                                 have n2_ := Aside0.mk (blk_grown (g := gb200) (o := .cells #[.int .i64 ((rd_T33 l0 (ji34)).f0), .int .i64 ((rd_T33 l0 (ji34)).f1), .int .i64 ((rd_T33 l0 (ji34)).f2)] 33 (0, 0)) (by (with_reducible repeat (first | refine blk_drewN ?_ _ | refine blk_drew ?_ | refine blk_alloc ?_ _)); exact BK200.out) hg (Kd.R_away HO213.out (fun _ hk => hk.2)))
                                 have n3_ := Aside0.mk (hb)
                                 have n4_ := Aside0.mk (ho)
                                 clear HO_5
                                 clear HO_8
                                 clear BK200
                                 clear HB
                                 clear HO213
                                 have HO_5 := n0_
                                 have HO_8 := n1_
                                 have BK200 := n2_
                                 have HB := n3_
                                 have HO220 := n4_
                                 clear n0_ n1_ n2_ n3_ n4_
                                 clear ho hb hg hat
                                 refine hK.out _ _ ⟨(blk_cell BK200.out 0).trans rfl, (blk_cell BK200.out 1).trans rfl, (blk_cell BK200.out 2).trans rfl⟩ (fun hHeld => ?_)
                                 clear hK K
                                 refine norm_ (a' := ?_) ?_ ?_
                                 rotate_left
                                 ·show Act.put _ (some 115) _ = _
                                  simp only [Act.put, List.setIfInBounds_toArray, List.set_cons_zero, List.set_cons_succ, i64_w, i32_w]
                                  rfl
                                 refine one_ (i := 9) (N := some 120) #[true, true, true, true, true, true, true, true, true, true, false, true, false, false, false, false, false, false] rfl rfl (one_of HT_.out (by kernel_rfl)) (by decide) (fun K hK => ?_)
                                 refine Kd.R_lit_step k33 _ 33 ?hg (N := 120) ?hd (xs := ([(⟨3, 0, 3⟩ : S33), (⟨1, ((rd_T33 l0 (ji34)).f1), 0⟩ : S33)] : List (S33))) (inner := [.int .i64 3, .int .i64 0, .int .i64 3, .int .i64 1, .int .i64 ((rd_T33 l0 (ji34)).f1), .int .i64 0]) (ok := fun _ => True) (okp := fun _ => True) ?hr ?hp (fun _ hk => hk) trivial (Below.refl _ _) (Nat.le_refl _) (by simp) ?_; (case hd => rfl); (case hg => rfl); (case hr => first | (go_simp; done) | (go_simp; rfl)); (case hp => exact (Reps.c3 (show Kd.M k33 _ _ _ (⟨3, 0, 3⟩ : S33) [.int .i64 3, .int .i64 0, .int .i64 3] from (k33_mkM _ _ _ (⟨3, 0, 3⟩ : S33) )) (Reps.c3 (show Kd.M k33 _ _ _ (⟨1, ((rd_T33 l0 (ji34)).f1), 0⟩ : S33) [.int .i64 1, .int .i64 ((rd_T33 l0 (ji34)).f1), .int .i64 0] from (k33_mkM _ _ _ (⟨1, ((rd_T33 l0 (ji34)).f1), 0⟩ : S33) )) (Reps.none _ _))))
                                 intro v222 w107 ho108 hb hg_ hnew_
                                 clear hg_ hnew_
                                 (first | rw [← Ny221.out] at ho108 | (simp only [Int.reduceToNat] at ho108; rw [← Ny221.out] at ho108))
                                 have n0_ := Aside0.mk (Kd.R_below (by (with_reducible repeat (first | apply Kd.R_alloc | apply Kd.R_drewN | apply Kd.R_drew)); exact HO_5.out) hb)
                                 have n1_ := Aside0.mk (Kd.R_below (by (with_reducible repeat (first | apply Kd.R_alloc | apply Kd.R_drewN | apply Kd.R_drew)); exact HO_8.out) hb)
                                 have n2_ := Aside0.mk (Kd.R_elder' (by (with_reducible repeat (first | apply Kd.R_alloc | apply Kd.R_drewN | apply Kd.R_drew)); exact HO220.out) (Kd.R_base ho108) hb)
                                 have n3_ := Aside0.mk (Kd.R_lower (Kd.R_newB (Kd.R_new' ho108 (Kd.R_lt (by (with_reducible repeat (first | apply Kd.R_alloc | apply Kd.R_drewN | apply Kd.R_drew)); exact HO220.out))) (g := gb200) (o := .cells #[.int .i64 ((rd_T33 l0 (ji34)).f0), .int .i64 ((rd_T33 l0 (ji34)).f1), .int .i64 ((rd_T33 l0 (ji34)).f2)] 33 (0, 0)) (by (with_reducible repeat (first | refine blk_drewN ?_ _ | refine blk_drew ?_ | refine blk_alloc ?_ _)); exact BK200.out)) (below_size (by repeat (first | (with_reducible first | exact HB.out | apply below_alloc | apply pw_below_drewN | apply below_drew1 | refine below_set ?_ GE200.out) | exact HB.out))))
                                 have n4_ := Aside0.mk (blk_below (g := gb200) (o := .cells #[.int .i64 ((rd_T33 l0 (ji34)).f0), .int .i64 ((rd_T33 l0 (ji34)).f1), .int .i64 ((rd_T33 l0 (ji34)).f2)] 33 (0, 0)) (by (with_reducible repeat (first | refine blk_drewN ?_ _ | refine blk_drew ?_ | refine blk_alloc ?_ _)); exact BK200.out) hb)
                                 have n5_ := Aside0.mk (below_step (by repeat (first | (with_reducible first | exact HB.out | apply below_alloc | apply pw_below_drewN | apply below_drew1 | refine below_set ?_ GE200.out) | exact HB.out)) hb)
                                 clear HO_5
                                 clear HO_8
                                 clear HO220
                                 clear BK200
                                 clear HB
                                 have HO_5 := n0_
                                 have HO_8 := n1_
                                 have HO220 := n2_
                                 have HO223 := n3_
                                 have BK200 := n4_
                                 have HB := n5_
                                 clear n0_ n1_ n2_ n3_ n4_ n5_
                                 clear hb ho108
                                 refine hK.out _ _ ⟨(blk_cell BK200.out 0).trans rfl, (blk_cell BK200.out 1).trans rfl, (blk_cell BK200.out 2).trans rfl⟩ (fun hHeld => ?_)
                                 clear hK K
                                 refine norm_ (a' := ?_) ?_ ?_
                                 rotate_left
                                 ·show Act.put _ (some 120) _ = _
                                  simp only [Act.put, List.setIfInBounds_toArray, List.set_cons_zero, List.set_cons_succ, i64_w, i32_w]
                                  rfl
                                 exact norm_ (by simp only [putAll, Act.put, List.setIfInBounds_toArray, List.set_cons_zero, List.set_cons_succ]) (hCont (v212, v219, v222) _ ⟨hHeld, (by (with_reducible repeat (first | apply Kd.R_alloc | apply Kd.R_drewN | apply Kd.R_drew)); exact Kd.R_mono HO220.out (fun _ hk => ⟨hk.2, hk.1⟩)), (by (with_reducible repeat (first | apply Kd.R_alloc | apply Kd.R_drewN | apply Kd.R_drew)); exact Kd.R_mono HO223.out (fun _ hk => ⟨hk.1.2, hk.2⟩)), (by (with_reducible repeat (first | apply Kd.R_alloc | apply Kd.R_drewN | apply Kd.R_drew)); exact HO_5.out), (by (with_reducible repeat (first | apply Kd.R_alloc | apply Kd.R_drewN | apply Kd.R_drew)); exact HO_8.out), (by (with_reducible repeat (first | refine blk_drewN ?_ _ | refine blk_drew ?_ | refine blk_alloc ?_ _)); exact BK200.out), (by repeat (first | (with_reducible first | exact HB.out | apply below_alloc | apply pw_below_drewN | apply below_drew1 | refine below_set ?_ GE200.out) | exact HB.out))⟩)
                                ·skip
                                 refine Kd.R_lit_step k33 _ 33 ?hg (N := 120) ?hd (xs := ([(⟨3, 0, 3⟩ : S33), (⟨1, ((rd_T33 l0 (ji34)).f1), 0⟩ : S33)] : List (S33))) (inner := [.int .i64 3, .int .i64 0, .int .i64 3, .int .i64 1, .int .i64 ((rd_T33 l0 (ji34)).f1), .int .i64 0]) (ok := fun _ => True) (okp := fun _ => True) ?hr ?hp (fun _ hk => hk) trivial (Below.refl _ _) (Nat.le_refl _) (by simp) ?_; (case hd => rfl); (case hg => rfl); (case hr => first | (go_simp; done) | (go_simp; rfl)); (case hp => exact (Reps.c3 (show Kd.M k33 _ _ _ (⟨3, 0, 3⟩ : S33) [.int .i64 3, .int .i64 0, .int .i64 3] from (k33_mkM _ _ _ (⟨3, 0, 3⟩ : S33) )) (Reps.c3 (show Kd.M k33 _ _ _ (⟨1, ((rd_T33 l0 (ji34)).f1), 0⟩ : S33) [.int .i64 1, .int .i64 ((rd_T33 l0 (ji34)).f1), .int .i64 0] from (k33_mkM _ _ _ (⟨1, ((rd_T33 l0 (ji34)).f1), 0⟩ : S33) )) (Reps.none _ _))))
                                 intro v222 w106 ho107 hb hg_ hnew_
                                 clear hg_ hnew_
                                 (first | rw [← Ny221.out] at ho107 | (simp only [Int.reduceToNat] at ho107; rw [← Ny221.out] at ho107))
                                 have n0_ := Aside0.mk (Kd.R_below (by (with_reducible repeat (first | apply Kd.R_alloc | apply Kd.R_drewN | apply Kd.R_drew)); exact HO_5.out) hb)
                                 have n1_ := Aside0.mk (Kd.R_below (by (with_reducible repeat (first | apply Kd.R_alloc | apply Kd.R_drewN | apply Kd.R_drew)); exact HO_8.out) hb)
                                 have n2_ := Aside0.mk (Kd.R_elder' (by (with_reducible repeat (first | apply Kd.R_alloc | apply Kd.R_drewN | apply Kd.R_drew)); exact HO213.out) (Kd.R_base ho107) hb)
                                 have n3_ := Aside0.mk (Kd.R_lower (Kd.R_newB (Kd.R_new' ho107 (Kd.R_lt (by (with_reducible repeat (first | apply Kd.R_alloc | apply Kd.R_drewN | apply Kd.R_drew)); exact HO213.out))) (g := gb200) (o := .cells #[.int .i64 ((rd_T33 l0 (ji34)).f0), .int .i64 ((rd_T33 l0 (ji34)).f1), .int .i64 ((rd_T33 l0 (ji34)).f2)] 33 (0, 0)) (by (with_reducible repeat (first | refine blk_drewN ?_ _ | refine blk_drew ?_ | refine blk_alloc ?_ _)); exact BK200.out)) (below_size (by repeat (first | (with_reducible first | exact HB.out | apply below_alloc | apply pw_below_drewN | apply below_drew1 | refine below_set ?_ GE200.out) | exact HB.out))))
                                 have n4_ := Aside0.mk (blk_below (g := gb200) (o := .cells #[.int .i64 ((rd_T33 l0 (ji34)).f0), .int .i64 ((rd_T33 l0 (ji34)).f1), .int .i64 ((rd_T33 l0 (ji34)).f2)] 33 (0, 0)) (by (with_reducible repeat (first | refine blk_drewN ?_ _ | refine blk_drew ?_ | refine blk_alloc ?_ _)); exact BK200.out) hb)
                                 have n5_ := Aside0.mk (below_step (by repeat (first | (with_reducible first | exact HB.out | apply below_alloc | apply pw_below_drewN | apply below_drew1 | refine below_set ?_ GE200.out) | exact HB.out)) hb)
                                 clear HO_5
                                 clear HO_8
                                 clear HO213
                                 clear BK200
                                 clear HB
                                 have HO_5 := n0_
                                 have HO_8 := n1_
                                 have HO213 := n2_
                                 have HO223 := n3_
                                 have BK200 := n4_
                                 have HB := n5_
                                 clear n0_ n1_ n2_ n3_ n4_ n5_
                                 clear hb ho107
                                 refine hK.out _ _ ⟨(blk_cell BK200.out 0).trans rfl, (blk_cell BK200.out 1).trans rfl, (blk_cell BK200.out 2).trans rfl⟩ (fun hHeld => ?_)
                                 clear hK K
                                 refine norm_ (a' := ?_) ?_ ?_
                                 rotate_left
                                 ·show Act.put _ (some 120) _ = _
                                  simp only [Act.put, List.setIfInBounds_toArray, List.set_cons_zero, List.set_cons_succ, i64_w, i32_w]
                                  rfl
                                 refine one_ (i := 4) (N := some 115) #[true, true, true, true, true, true, true, true, true, true, false, true, false, false, false, false, false, false] rfl rfl (one_of HT_.out (by kernel_rfl)) (by decide) (fun K hK => ?_)
                                 refine Kd.R_append_rows_step k33 (w0 := w) w.heap.size (by rfl) (.tmp 111) (.tmp 114) 22 33 (.agg #[(.int .i64 0), (.int .i64 0), (.int .i64 0)]) 24 rfl Try.underlying22 info33 rfl (by decide) (by omega) v212 y211 y214 _ _ _ (fun k_ => some k_ ≠ (v222 : Value).ownBlock ∧ k_ ≠ gb200) (fun _ => False) rfl rfl ?aO ?aR (fun _ _ h => h) (fun _ h => h.elim) ?aF ?aB ?aS ?aL ?_
                                 (case aR => repeat (first | exact (Kd.C_below HR217.out HB.out) | (with_reducible refine Kd.C_alloc ?_ _) | (with_reducible refine Kd.C_drewN ?_ _) | (with_reducible refine Kd.C_drew ?_)))
                                 (case aB => exact (by repeat (first | (with_reducible first | exact HB.out | apply below_alloc | apply pw_below_drewN | apply below_drew1 | refine below_set ?_ GE200.out) | exact HB.out)))
                                 (case aF => exact (fun k_ hk => ⟨Kd.fresh' (Kd.R_lt (by (with_reducible repeat (first | apply Kd.R_alloc | apply Kd.R_drewN | apply Kd.R_drew)); exact HO223.out)) k_ hk, Kd.freshB (g := gb200) (o := .cells #[.int .i64 ((rd_T33 l0 (ji34)).f0), .int .i64 ((rd_T33 l0 (ji34)).f1), .int .i64 ((rd_T33 l0 (ji34)).f2)] 33 (0, 0)) (by (with_reducible repeat (first | refine blk_drewN ?_ _ | refine blk_drew ?_ | refine blk_alloc ?_ _)); exact BK200.out) k_ hk⟩))
                                 (case aO => exact (by (with_reducible repeat (first | apply Kd.R_alloc | apply Kd.R_drewN | apply Kd.R_drew)); exact Kd.R_mono HO213.out (fun _ hk => ⟨hk.2, hk.1.2⟩)))
                                 (case aS => exact (below_size (by repeat (first | (with_reducible first | exact HB.out | apply below_alloc | apply pw_below_drewN | apply below_drew1 | refine below_set ?_ GE200.out) | exact HB.out))))
                                 (case aL => have := LMc68.out; omega)
                                 intro v219 w108 ho hb hg hat
                                 rw [← Ny218.out] at ho
                                 have n0_ := Aside0.mk (Kd.R_over' (by (with_reducible repeat (first | apply Kd.R_alloc | apply Kd.R_drewN | apply Kd.R_drew)); exact HO_5.out) (Kd.R_typed (by (with_reducible repeat (first | apply Kd.R_alloc | apply Kd.R_drewN | apply Kd.R_drew)); exact HO213.out)) (by decide) hg)
                                 have n1_ := Aside0.mk (Kd.R_over' (by (with_reducible repeat (first | apply Kd.R_alloc | apply Kd.R_drewN | apply Kd.R_drew)); exact HO_8.out) (Kd.R_typed (by (with_reducible repeat (first | apply Kd.R_alloc | apply Kd.R_drewN | apply Kd.R_drew)); exact HO213.out)) (by decide) hg)
                                 have n2_ := Aside0.mk (blk_grown (g := gb200) (o := .cells #[.int .i64 ((rd_T33 l0 (ji34)).f0), .int .i64 ((rd_T33 l0 (ji34)).f1), .int .i64 ((rd_T33 l0 (ji34)).f2)] 33 (0, 0)) (by (with_reducible repeat (first | refine blk_drewN ?_ _ | refine blk_drew ?_ | refine blk_alloc ?_ _)); exact BK200.out) hg (Kd.R_away HO213.out (fun _ hk => hk.1.2)))
                                 have n3_ := Aside0.mk (Kd.R_after (ok := (fun k_ => k_ ≠ gb200)) (by (with_reducible repeat (first | apply Kd.R_alloc | apply Kd.R_drewN | apply Kd.R_drew)); exact Kd.R_mono HO223.out (fun _ hk => ⟨hk.2, hk.1.2⟩)) hg hat)
                                 have n4_ := Aside0.mk (hb)
                                 have n5_ := Aside0.mk (ho)
                                 clear HO_5
                                 clear HO_8
                                 clear BK200
                                 clear HO223
                                 clear HB
                                 clear HO213
                                 have HO_5 := n0_
                                 have HO_8 := n1_
                                 have BK200 := n2_
                                 have HO223 := n3_
                                 have HB := n4_
                                 have HO220 := n5_
                                 clear n0_ n1_ n2_ n3_ n4_ n5_
                                 clear ho hb hg hat
                                 refine hK.out _ _ ⟨(blk_cell BK200.out 0).trans rfl, (blk_cell BK200.out 1).trans rfl, (blk_cell BK200.out 2).trans rfl⟩ (fun hHeld => ?_)
                                 clear hK K
                                 refine norm_ (a' := ?_) ?_ ?_
                                 rotate_left
                                 ·show Act.put _ (some 115) _ = _
                                  simp only [Act.put, List.setIfInBounds_toArray, List.set_cons_zero, List.set_cons_succ, i64_w, i32_w]
                                  rfl
                                 exact norm_ (by simp only [putAll, Act.put, List.setIfInBounds_toArray, List.set_cons_zero, List.set_cons_succ]) (hCont (v212, v219, v222) _ ⟨hHeld, (by (with_reducible repeat (first | apply Kd.R_alloc | apply Kd.R_drewN | apply Kd.R_drew)); exact HO220.out), (by (with_reducible repeat (first | apply Kd.R_alloc | apply Kd.R_drewN | apply Kd.R_drew)); exact Kd.R_mono HO223.out (fun _ hk => ⟨hk.2, hk.1⟩)), (by (with_reducible repeat (first | apply Kd.R_alloc | apply Kd.R_drewN | apply Kd.R_drew)); exact HO_5.out), (by (with_reducible repeat (first | apply Kd.R_alloc | apply Kd.R_drewN | apply Kd.R_drew)); exact HO_8.out), (by (with_reducible repeat (first | refine blk_drewN ?_ _ | refine blk_drew ?_ | refine blk_alloc ?_ _)); exact BK200.out), (by repeat (first | (with_reducible first | exact HB.out | apply below_alloc | apply pw_below_drewN | apply below_drew1 | refine below_set ?_ GE200.out) | exact HB.out))⟩)
                               ·skip
                                refine Kd.R_lit_step k33 _ 33 ?hg (N := 120) ?hd (xs := ([(⟨3, 0, 3⟩ : S33), (⟨1, ((rd_T33 l0 (ji34)).f1), 0⟩ : S33)] : List (S33))) (inner := [.int .i64 3, .int .i64 0, .int .i64 3, .int .i64 1, .int .i64 ((rd_T33 l0 (ji34)).f1), .int .i64 0]) (ok := fun _ => True) (okp := fun _ => True) ?hr ?hp (fun _ hk => hk) trivial (Below.refl _ _) (Nat.le_refl _) (by simp) ?_; (case hd => rfl); (case hg => rfl); (case hr => first | (go_simp; done) | (go_simp; rfl)); (case hp => exact (Reps.c3 (show Kd.M k33 _ _ _ (⟨3, 0, 3⟩ : S33) [.int .i64 3, .int .i64 0, .int .i64 3] from (k33_mkM _ _ _ (⟨3, 0, 3⟩ : S33) )) (Reps.c3 (show Kd.M k33 _ _ _ (⟨1, ((rd_T33 l0 (ji34)).f1), 0⟩ : S33) [.int .i64 1, .int .i64 ((rd_T33 l0 (ji34)).f1), .int .i64 0] from (k33_mkM _ _ _ (⟨1, ((rd_T33 l0 (ji34)).f1), 0⟩ : S33) )) (Reps.none _ _))))
                                intro v222 w104 ho105 hb hg_ hnew_
                                clear hg_ hnew_
                                (first | rw [← Ny221.out] at ho105 | (simp only [Int.reduceToNat] at ho105; rw [← Ny221.out] at ho105))
                                have n0_ := Aside0.mk (Kd.R_below (by (with_reducible repeat (first | apply Kd.R_alloc | apply Kd.R_drewN | apply Kd.R_drew)); exact HO_5.out) hb)
                                have n1_ := Aside0.mk (Kd.R_below (by (with_reducible repeat (first | apply Kd.R_alloc | apply Kd.R_drewN | apply Kd.R_drew)); exact HO_8.out) hb)
                                have n2_ := Aside0.mk (Kd.R_lower (Kd.R_newB ho105 (g := gb200) (o := .cells #[.int .i64 ((rd_T33 l0 (ji34)).f0), .int .i64 ((rd_T33 l0 (ji34)).f1), .int .i64 ((rd_T33 l0 (ji34)).f2)] 33 (0, 0)) (by (with_reducible repeat (first | refine blk_drewN ?_ _ | refine blk_drew ?_ | refine blk_alloc ?_ _)); exact BK200.out)) (below_size (by repeat (first | (with_reducible first | exact HB.out | apply below_alloc | apply pw_below_drewN | apply below_drew1 | refine below_set ?_ GE200.out) | exact HB.out))))
                                have n3_ := Aside0.mk (blk_below (g := gb200) (o := .cells #[.int .i64 ((rd_T33 l0 (ji34)).f0), .int .i64 ((rd_T33 l0 (ji34)).f1), .int .i64 ((rd_T33 l0 (ji34)).f2)] 33 (0, 0)) (by (with_reducible repeat (first | refine blk_drewN ?_ _ | refine blk_drew ?_ | refine blk_alloc ?_ _)); exact BK200.out) hb)
                                have n4_ := Aside0.mk (below_step (by repeat (first | (with_reducible first | exact HB.out | apply below_alloc | apply pw_below_drewN | apply below_drew1 | refine below_set ?_ GE200.out) | exact HB.out)) hb)
                                clear HO_5
                                clear HO_8
                                clear BK200
                                clear HB
                                have HO_5 := n0_
                                have HO_8 := n1_
                                have HO223 := n2_
                                have BK200 := n3_
                                have HB := n4_
                                clear n0_ n1_ n2_ n3_ n4_
                                clear hb ho105
                                refine hK.out _ _ ⟨(blk_cell BK200.out 0).trans rfl, (blk_cell BK200.out 1).trans rfl, (blk_cell BK200.out 2).trans rfl⟩ (fun hHeld => ?_)
                                clear hK K
                                refine norm_ (a' := ?_) ?_ ?_
                                rotate_left
                                ·show Act.put _ (some 120) _ = _
                                 simp only [Act.put, List.setIfInBounds_toArray, List.set_cons_zero, List.set_cons_succ, i64_w, i32_w]
                                 rfl
                                refine one_ (i := 0) (N := some 111) #[true, true, true, true, false, true, true, true, true, true, false, true, false, false, false, false, false, false] rfl rfl (one_of HT_.out (by kernel_rfl)) (by decide) (fun K hK => ?_)
                                refine Kd.R_lit_step k33 _ 33 ?hg (N := 111) ?hd (xs := ([] : List (S33))) (inner := []) (ok := fun _ => True) (okp := fun _ => True) ?hr ?hp (fun _ hk => hk) trivial (Below.refl _ _) (Nat.le_refl _) (by simp) ?_; (case hd => rfl); (case hg => rfl); (case hr => first | (go_simp; done) | (go_simp; rfl)); (case hp => exact (Reps.none _ _))
                                intro v212 w106 ho107 hb hg_ hnew_
                                clear hg_ hnew_
                                (first | rw [← Ny211.out] at ho107 | (simp only [Int.reduceToNat] at ho107; rw [← Ny211.out] at ho107))
                                have n0_ := Aside0.mk (Kd.R_below (by (with_reducible repeat (first | apply Kd.R_alloc | apply Kd.R_drewN | apply Kd.R_drew)); exact HO_5.out) hb)
                                have n1_ := Aside0.mk (Kd.R_below (by (with_reducible repeat (first | apply Kd.R_alloc | apply Kd.R_drewN | apply Kd.R_drew)); exact HO_8.out) hb)
                                have n2_ := Aside0.mk (Kd.R_elder' (by (with_reducible repeat (first | apply Kd.R_alloc | apply Kd.R_drewN | apply Kd.R_drew)); exact HO223.out) (Kd.R_base ho107) hb)
                                have n3_ := Aside0.mk (Kd.R_lower (Kd.R_newB (Kd.R_new' ho107 (Kd.R_lt (by (with_reducible repeat (first | apply Kd.R_alloc | apply Kd.R_drewN | apply Kd.R_drew)); exact HO223.out))) (g := gb200) (o := .cells #[.int .i64 ((rd_T33 l0 (ji34)).f0), .int .i64 ((rd_T33 l0 (ji34)).f1), .int .i64 ((rd_T33 l0 (ji34)).f2)] 33 (0, 0)) (by (with_reducible repeat (first | refine blk_drewN ?_ _ | refine blk_drew ?_ | refine blk_alloc ?_ _)); exact BK200.out)) (below_size (by repeat (first | (with_reducible first | exact HB.out | apply below_alloc | apply pw_below_drewN | apply below_drew1 | refine below_set ?_ GE200.out) | exact HB.out))))
                                have n4_ := Aside0.mk (blk_below (g := gb200) (o := .cells #[.int .i64 ((rd_T33 l0 (ji34)).f0), .int .i64 ((rd_T33 l0 (ji34)).f1), .int .i64 ((rd_T33 l0 (ji34)).f2)] 33 (0, 0)) (by (with_reducible repeat (first | refine blk_drewN ?_ _ | refine blk_drew ?_ | refine blk_alloc ?_ _)); exact BK200.out) hb)
                                have n5_ := Aside0.mk (below_step (by repeat (first | (with_reducible first | exact HB.out | apply below_alloc | apply pw_below_drewN | apply below_drew1 | refine below_set ?_ GE200.out) | exact HB.out)) hb)
                                clear HO_5
                                clear HO_8
                                clear HO223
                                clear BK200
                                clear HB
                                have HO_5 := n0_
                                have HO_8 := n1_
                                have HO223 := n2_
                                have HO213 := n3_
                                have BK200 := n4_
                                have HB := n5_
                                clear n0_ n1_ n2_ n3_ n4_ n5_
                                clear hb ho107
                                refine hK.out _ _ ⟨(blk_cell BK200.out 0).trans rfl, (blk_cell BK200.out 1).trans rfl, (blk_cell BK200.out 2).trans rfl⟩ (fun hHeld => ?_)
                                clear hK K
                                refine norm_ (a' := ?_) ?_ ?_
                                rotate_left
                                ·show Act.put _ (some 111) _ = _
                                 simp only [Act.put, List.setIfInBounds_toArray, List.set_cons_zero, List.set_cons_succ, i64_w, i32_w]
                                 rfl
                                refine one_ (i := 4) (N := some 115) #[true, true, true, true, true, true, true, true, true, true, false, true, false, false, false, false, false, false] rfl rfl (one_of HT_.out (by kernel_rfl)) (by decide) (fun K hK => ?_)
                                refine Kd.R_append_rows_step k33 (w0 := w) w.heap.size (by rfl) (.tmp 111) (.tmp 114) 22 33 (.agg #[(.int .i64 0), (.int .i64 0), (.int .i64 0)]) 24 rfl Try.underlying22 info33 rfl (by decide) (by omega) v212 y211 y214 _ _ _ (fun k_ => some k_ ≠ (v222 : Value).ownBlock ∧ k_ ≠ gb200) (fun _ => False) rfl rfl ?aO ?aR (fun _ _ h => h) (fun _ h => h.elim) ?aF ?aB ?aS ?aL ?_
                                (case aR => repeat (first | exact (Kd.C_below HR217.out HB.out) | (with_reducible refine Kd.C_alloc ?_ _) | (with_reducible refine Kd.C_drewN ?_ _) | (with_reducible refine Kd.C_drew ?_)))
                                (case aB => exact (by repeat (first | (with_reducible first | exact HB.out | apply below_alloc | apply pw_below_drewN | apply below_drew1 | refine below_set ?_ GE200.out) | exact HB.out)))
                                (case aF => exact (fun k_ hk => ⟨Kd.fresh' (Kd.R_lt (by (with_reducible repeat (first | apply Kd.R_alloc | apply Kd.R_drewN | apply Kd.R_drew)); exact HO223.out)) k_ hk, Kd.freshB (g := gb200) (o := .cells #[.int .i64 ((rd_T33 l0 (ji34)).f0), .int .i64 ((rd_T33 l0 (ji34)).f1), .int .i64 ((rd_T33 l0 (ji34)).f2)] 33 (0, 0)) (by (with_reducible repeat (first | refine blk_drewN ?_ _ | refine blk_drew ?_ | refine blk_alloc ?_ _)); exact BK200.out) k_ hk⟩))
                                (case aO => exact (by (with_reducible repeat (first | apply Kd.R_alloc | apply Kd.R_drewN | apply Kd.R_drew)); exact Kd.R_mono HO213.out (fun _ hk => ⟨hk.1.2, hk.2⟩)))
                                (case aS => exact (below_size (by repeat (first | (with_reducible first | exact HB.out | apply below_alloc | apply pw_below_drewN | apply below_drew1 | refine below_set ?_ GE200.out) | exact HB.out))))
                                (case aL => have := LMc68.out; omega)
                                intro v219 w108 ho hb hg hat
                                rw [← Ny218.out] at ho
                                have n0_ := Aside0.mk (Kd.R_over' (by (with_reducible repeat (first | apply Kd.R_alloc | apply Kd.R_drewN | apply Kd.R_drew)); exact HO_5.out) (Kd.R_typed (by (with_reducible repeat (first | apply Kd.R_alloc | apply Kd.R_drewN | apply Kd.R_drew)); exact HO213.out)) (by decide) hg)
                                have n1_ := Aside0.mk (Kd.R_over' (by (with_reducible repeat (first | apply Kd.R_alloc | apply Kd.R_drewN | apply Kd.R_drew)); exact HO_8.out) (Kd.R_typed (by (with_reducible repeat (first | apply Kd.R_alloc | apply Kd.R_drewN | apply Kd.R_drew)); exact HO213.out)) (by decide) hg)
                                have n2_ := Aside0.mk (blk_grown (g := gb200) (o := .cells #[.int .i64 ((rd_T33 l0 (ji34)).f0), .int .i64 ((rd_T33 l0 (ji34)).f1), .int .i64 ((rd_T33 l0 (ji34)).f2)] 33 (0, 0)) (by (with_reducible repeat (first | refine blk_drewN ?_ _ | refine blk_drew ?_ | refine blk_alloc ?_ _)); exact BK200.out) hg (Kd.R_away HO213.out (fun _ hk => hk.2)))
                                have n3_ := Aside0.mk (Kd.R_after (ok := (fun k_ => k_ ≠ gb200)) (by (with_reducible repeat (first | apply Kd.R_alloc | apply Kd.R_drewN | apply Kd.R_drew)); exact Kd.R_mono HO223.out (fun _ hk => ⟨hk.1.2, hk.2⟩)) hg hat)
                                have n4_ := Aside0.mk (hb)
                                have n5_ := Aside0.mk (ho)
                                clear HO_5
                                clear HO_8
                                clear BK200
                                clear HO223
                                clear HB
                                clear HO213
                                have HO_5 := n0_
                                have HO_8 := n1_
                                have BK200 := n2_
                                have HO223 := n3_
                                have HB := n4_
                                have HO220 := n5_
                                clear n0_ n1_ n2_ n3_ n4_ n5_
                                clear ho hb hg hat
                                refine hK.out _ _ ⟨(blk_cell BK200.out 0).trans rfl, (blk_cell BK200.out 1).trans rfl, (blk_cell BK200.out 2).trans rfl⟩ (fun hHeld => ?_)
                                clear hK K
                                refine norm_ (a' := ?_) ?_ ?_
                                rotate_left
                                ·show Act.put _ (some 115) _ = _
                                 simp only [Act.put, List.setIfInBounds_toArray, List.set_cons_zero, List.set_cons_succ, i64_w, i32_w]
                                 rfl
                                exact norm_ (by simp only [putAll, Act.put, List.setIfInBounds_toArray, List.set_cons_zero, List.set_cons_succ]) (hCont (v212, v219, v222) _ ⟨hHeld, (by (with_reducible repeat (first | apply Kd.R_alloc | apply Kd.R_drewN | apply Kd.R_drew)); exact HO220.out), (by (with_reducible repeat (first | apply Kd.R_alloc | apply Kd.R_drewN | apply Kd.R_drew)); exact Kd.R_mono HO223.out (fun _ hk => ⟨hk.2, hk.1⟩)), (by (with_reducible repeat (first | apply Kd.R_alloc | apply Kd.R_drewN | apply Kd.R_drew)); exact HO_5.out), (by (with_reducible repeat (first | apply Kd.R_alloc | apply Kd.R_drewN | apply Kd.R_drew)); exact HO_8.out), (by (with_reducible repeat (first | refine blk_drewN ?_ _ | refine blk_drew ?_ | refine blk_alloc ?_ _)); exact BK200.out), (by repeat (first | (with_reducible first | exact HB.out | apply below_alloc | apply pw_below_drewN | apply below_drew1 | refine below_set ?_ GE200.out) | exact HB.out))⟩)
                              rintro ⟨v212, v219, v222⟩ w109 ⟨hS_, h0_, h1_, h2_, h3_, h4_, h5_⟩
                              have n0_ : Aside0 (Kd.R k33 33 w109 w.heap.size (fun k_ => some k_ ≠ (v222 : Value).ownBlock ∧ k_ ≠ gb200) v219 y218) := ⟨h0_⟩
                              have n1_ : Aside0 (Kd.R k33 33 w109 w.heap.size (fun k_ => some k_ ≠ (v219 : Value).ownBlock ∧ k_ ≠ gb200) v222 y221) := ⟨h1_⟩
                              have n2_ : Aside0 (Kd.R (Kd.int .i64) 2 w109 w.heap.size (fun k_ => some k_ ≠ (v196 : Value).ownBlock) v188 t186) := ⟨h2_⟩
                              have n3_ : Aside0 (Kd.R (Kd.int .i64) 2 w109 w.heap.size (fun k_ => some k_ ≠ (v188 : Value).ownBlock) v196 t194) := ⟨h3_⟩
                              have n4_ : Aside0 (w109.heap[gb200]? = some (.cells #[.int .i64 ((rd_T33 l0 (ji34)).f0), .int .i64 ((rd_T33 l0 (ji34)).f1), .int .i64 ((rd_T33 l0 (ji34)).f2)] 33 (0, 0))) := ⟨h4_⟩
                              have n5_ : Aside0 (Below w.heap.size w w109) := ⟨h5_⟩
                              clear HO_5
                              clear HO_8
                              clear BK200
                              clear HB
                              clear h0_ h1_ h2_ h3_ h4_ h5_
                              have HO220 := n0_
                              have HO223 := n1_
                              have HO_5 := n2_
                              have HO_8 := n3_
                              have BK200 := n4_
                              have HB := n5_
                              clear n0_ n1_ n2_ n3_ n4_ n5_
                              have hHeld : w109.cell? ⟨gb200, 0, none⟩ = some (.int .i64 ((rd_T33 l0 (ji34)).f0)) ∧ w109.cell? ⟨gb200, 1, none⟩ = some (.int .i64 ((rd_T33 l0 (ji34)).f1)) ∧ w109.cell? ⟨gb200, 2, none⟩ = some (.int .i64 ((rd_T33 l0 (ji34)).f2)) := hS_
                              obtain ⟨Ao111, co111, eo111⟩ := Kd.R_slice HO223.out
                              (first | subst eo111 | (injection eo111 with f1_ f2_ f3_; have f4_ := f1_.symm; have f5_ := f3_.symm; clear f1_ f2_ f3_; subst f4_; subst f5_))
                              refine norm_ (a' := ?_) ?_ ?_
                              rotate_left
                              ·simp only [putAll, Act.put, List.setIfInBounds_toArray, List.set_cons_zero, List.set_cons_succ]
                               rfl
                              refine one_ (i := 10) (N := some 121) #[true, true, true, true, true, true, true, true, true, true, true, true, false, false, false, false, false, false] rfl rfl (one_of HT_.out (by kernel_rfl)) (by decide) (fun K hK => ?_)
                              refine Kd.R_append_rows_step k33 (w0 := w) w.heap.size (by rfl) (.tmp 115) (.tmp 120) 22 33 (.agg #[(.int .i64 0), (.int .i64 0), (.int .i64 0)]) 24 rfl Try.underlying22 info33 rfl (by decide) (by omega) v219 y218 y221 _ _ _ (fun k_ => some k_ ≠ (.slice Ao111 y221.length co111 : Value).ownBlock ∧ k_ ≠ gb200) (fun _ => False) rfl rfl ?aO ?aR (fun _ _ h => h) (fun _ h => h.elim) ?aF ?aB ?aS ?aL ?_
                              (case aR => repeat (first | exact (Kd.R_reads' HO223.out).2.2 | (with_reducible refine Kd.C_alloc ?_ _) | (with_reducible refine Kd.C_drewN ?_ _) | (with_reducible refine Kd.C_drew ?_)))
                              (case aB => exact (by repeat (first | (with_reducible first | exact HB.out | apply below_alloc | apply pw_below_drewN | apply below_drew1 | refine below_set ?_ GE200.out) | exact HB.out)))
                              (case aF => exact (fun k_ hk => ⟨Kd.fresh' (Kd.R_lt (by (with_reducible repeat (first | apply Kd.R_alloc | apply Kd.R_drewN | apply Kd.R_drew)); exact HO223.out)) k_ hk, Kd.freshB (g := gb200) (o := .cells #[.int .i64 ((rd_T33 l0 (ji34)).f0), .int .i64 ((rd_T33 l0 (ji34)).f1), .int .i64 ((rd_T33 l0 (ji34)).f2)] 33 (0, 0)) (by (with_reducible repeat (first | refine blk_drewN ?_ _ | refine blk_drew ?_ | refine blk_alloc ?_ _)); exact BK200.out) k_ hk⟩))
                              (case aO => exact (by (with_reducible repeat (first | apply Kd.R_alloc | apply Kd.R_drewN | apply Kd.R_drew)); exact HO220.out))
                              (case aS => exact (below_size (by repeat (first | (with_reducible first | exact HB.out | apply below_alloc | apply pw_below_drewN | apply below_drew1 | refine below_set ?_ GE200.out) | exact HB.out))))
                              (case aL => have := LMc69.out; omega)
                              intro v225 w110 ho hb hg hat
                              rw [← Ny224.out] at ho
                              have n0_ := Aside0.mk (Kd.R_over' (by (with_reducible repeat (first | apply Kd.R_alloc | apply Kd.R_drewN | apply Kd.R_drew)); exact HO_5.out) (Kd.R_typed (by (with_reducible repeat (first | apply Kd.R_alloc | apply Kd.R_drewN | apply Kd.R_drew)); exact HO220.out)) (by decide) hg)
                              have n1_ := Aside0.mk (Kd.R_over' (by (with_reducible repeat (first | apply Kd.R_alloc | apply Kd.R_drewN | apply Kd.R_drew)); exact HO_8.out) (Kd.R_typed (by (with_reducible repeat (first | apply Kd.R_alloc | apply Kd.R_drewN | apply Kd.R_drew)); exact HO220.out)) (by decide) hg)
                              have n2_ := Aside0.mk (blk_grown (g := gb200) (o := .cells #[.int .i64 ((rd_T33 l0 (ji34)).f0), .int .i64 ((rd_T33 l0 (ji34)).f1), .int .i64 ((rd_T33 l0 (ji34)).f2)] 33 (0, 0)) (by (with_reducible repeat (first | refine blk_drewN ?_ _ | refine blk_drew ?_ | refine blk_alloc ?_ _)); exact BK200.out) hg (Kd.R_away HO220.out (fun _ hk => hk.2)))
                              have n3_ := Aside0.mk (Kd.R_after (ok := (fun k_ => k_ ≠ gb200)) (by (with_reducible repeat (first | apply Kd.R_alloc | apply Kd.R_drewN | apply Kd.R_drew)); exact Kd.R_mono HO223.out (fun _ hk => ⟨hk.2, hk.1⟩)) hg hat)
                              have n4_ := Aside0.mk (hb)
                              have n5_ := Aside0.mk (ho)
                              clear HO_5
                              clear HO_8
                              clear BK200
                              clear HO223
                              clear HB
                              clear HO220
                              have HO_5 := n0_
                              have HO_8 := n1_
                              have BK200 := n2_
                              have HO223 := n3_
                              have HB := n4_
                              have HO226 := n5_
                              clear n0_ n1_ n2_ n3_ n4_ n5_
                              clear ho hb hg hat
                              obtain ⟨Ao112, co112, eo112⟩ := Kd.R_slice HO226.out
                              (first | subst eo112 | (injection eo112 with f1_ f2_ f3_; have f4_ := f1_.symm; have f5_ := f3_.symm; clear f1_ f2_ f3_; subst f4_; subst f5_))
                              refine hK.out _ _ ⟨(blk_cell BK200.out 0).trans rfl, (blk_cell BK200.out 1).trans rfl, (blk_cell BK200.out 2).trans rfl⟩ (fun hHeld => ?_)
                              clear hK K
                              refine norm_ (a' := ?_) ?_ ?_
                              rotate_left
                              ·show Act.put _ (some 121) _ = _
                               simp only [Act.put, List.setIfInBounds_toArray, List.set_cons_zero, List.set_cons_succ, i64_w, i32_w]
                               rfl
                              refine one_ (i := 12) (N := some 123) #[true, true, true, true, true, true, true, true, true, true, true, true, true, false, false, false, false, false] rfl rfl (one_of HT_.out (by kernel_rfl)) (by decide) (fun K hK => ?_)
                              refine goes_ Try.func11 (by kernel_rfl) rfl #[.slice Ao112 y224.length co112, .slice A1 l1.length c1] (by rfl) rfl rfl (by (try simp only [List.map_toArray, List.map_cons, List.map_nil]); first | done | rfl | (simp only [List.length_drop, List.length_take]; rfl)) ?_
                              with_reducible refine (lang_Alone.calls _ _ y224 _ _ l1 t227 t228 _ ?side1 ?side2 ?side3 ?side4 A70.out).mono ?_
                              (case side1 => repeat (first | exact (Kd.R_reads' HO226.out).2.2 | (with_reducible refine Kd.C_alloc ?_ _) | (with_reducible refine Kd.C_drewN ?_ _) | (with_reducible refine Kd.C_drew ?_)))
                              (case side2 => exact (Kd.R_reads' HO226.out).2.1)
                              (case side3 => repeat (first | exact (Kd.C_below HR1.out HB.out) | (with_reducible refine Kd.C_alloc ?_ _) | (with_reducible refine Kd.C_drewN ?_ _) | (with_reducible refine Kd.C_drew ?_)))
                              (case side4 => exact HC1.out)
                              rintro e w113 ⟨v229, rfl, ho0, hb⟩
                              refine ⟨_, rfl, ?_⟩
                              have n0_ := Aside0.mk (Kd.R_elder' (by (with_reducible repeat (first | apply Kd.R_alloc | apply Kd.R_drewN | apply Kd.R_drew)); exact HO_5.out) (Kd.R_base ho0) hb)
                              have n1_ := Aside0.mk (Kd.R_elder' (by (with_reducible repeat (first | apply Kd.R_alloc | apply Kd.R_drewN | apply Kd.R_drew)); exact HO_8.out) (Kd.R_base ho0) hb)
                              have n2_ := Aside0.mk (Kd.R_below (by (with_reducible repeat (first | apply Kd.R_alloc | apply Kd.R_drewN | apply Kd.R_drew)); exact HO223.out) hb)
                              have n3_ := Aside0.mk (Kd.R_below (by (with_reducible repeat (first | apply Kd.R_alloc | apply Kd.R_drewN | apply Kd.R_drew)); exact HO226.out) hb)
                              have n4_ := Aside0.mk (Kd.R_lower (Kd.R_new' (Kd.R_new' ho0 (Kd.R_lt (by (with_reducible repeat (first | apply Kd.R_alloc | apply Kd.R_drewN | apply Kd.R_drew)); exact HO_5.out))) (Kd.R_lt (by (with_reducible repeat (first | apply Kd.R_alloc | apply Kd.R_drewN | apply Kd.R_drew)); exact HO_8.out))) (below_size (by repeat (first | (with_reducible first | exact HB.out | apply below_alloc | apply pw_below_drewN | apply below_drew1 | refine below_set ?_ GE200.out) | exact HB.out))))
                              have n5_ := Aside0.mk (blk_below (g := gb200) (o := .cells #[.int .i64 ((rd_T33 l0 (ji34)).f0), .int .i64 ((rd_T33 l0 (ji34)).f1), .int .i64 ((rd_T33 l0 (ji34)).f2)] 33 (0, 0)) (by (with_reducible repeat (first | refine blk_drewN ?_ _ | refine blk_drew ?_ | refine blk_alloc ?_ _)); exact BK200.out) hb)
                              have n6_ := Aside0.mk (below_step (by repeat (first | (with_reducible first | exact HB.out | apply below_alloc | apply pw_below_drewN | apply below_drew1 | refine below_set ?_ GE200.out) | exact HB.out)) hb)
                              clear HO_5
                              clear HO_8
                              clear HO223
                              clear HO226
                              clear BK200
                              clear HB
                              have HO_5 := n0_
                              have HO_8 := n1_
                              have HO223 := n2_
                              have HO226 := n3_
                              have HO230 := n4_
                              have BK200 := n5_
                              have HB := n6_
                              clear n0_ n1_ n2_ n3_ n4_ n5_ n6_
                              (try clear hb)
                              (try clear hb2)
                              (try clear hk)
                              (try clear hi)
                              (try clear ho0)
                              refine hK.out _ _ ⟨(blk_cell BK200.out 0).trans rfl, (blk_cell BK200.out 1).trans rfl, (blk_cell BK200.out 2).trans rfl⟩ (fun hHeld => ?_)
                              clear hK K
                              refine norm_ (a' := ?_) ?_ ?_
                              rotate_left
                              ·show Act.put _ (some 123) _ = _
                               simp only [Act.put, List.setIfInBounds_toArray, List.set_cons_zero, List.set_cons_succ, i64_w, i32_w]
                               rfl
                              refine pure_ (i := 13) (N := some 110) (v := ?_) (a' := ?_) #[true, true, true, true, true, true, true, true, true, true, true, true, true, true, false, false, false, false] rfl rfl (any_of HT_.out (by kernel_rfl)) (fun _ _ _ h => h) (Or.inl ⟨by rfl, ?_⟩) ?_ ?_
                              rotate_left
                              ·intro w'
                               go_simp
                               with_reducible rfl
                              rotate_left
                              ·simp only [Act.put, List.setIfInBounds_toArray, List.set_cons_zero, List.set_cons_succ, i64_w, i32_w]
                               rfl
                              refine pure_ (i := 14) (N := some 124) (v := ?_) (a' := ?_) #[true, true, true, true, true, true, true, true, true, true, true, true, true, true, true, false, false, false] rfl rfl (any_of HT_.out (by kernel_rfl)) (fun _ _ _ h => h) (Or.inl ⟨by rfl, ?_⟩) ?_ ?_
                              rotate_left
                              ·intro w'
                               go_simp
                               with_reducible rfl
                              rotate_left
                              ·simp only [Act.put, List.setIfInBounds_toArray, List.set_cons_zero, List.set_cons_succ, i64_w, i32_w]
                               rfl
                              refine pure_ (i := 15) (N := some 125) (v := ?_) (a' := ?_) #[true, true, true, true, true, true, true, true, true, true, true, true, true, true, true, true, false, false] rfl rfl (any_of HT_.out (by kernel_rfl)) (fun _ _ _ h => h) (Or.inl ⟨by rfl, ?_⟩) ?_ ?_
                              rotate_left
                              ·intro w'
                               go_simp
                               with_reducible rfl
                              rotate_left
                              ·simp only [Act.put, List.setIfInBounds_toArray, List.set_cons_zero, List.set_cons_succ, i64_w, i32_w]
                               rfl
                              refine pure_ (i := 16) (N := some 12) (v := ?_) (a' := ?_) #[true, true, true, true, true, true, true, true, true, true, true, true, true, true, true, true, true, false] rfl rfl (any_of HT_.out (by kernel_rfl)) (fun _ _ _ h => h) (Or.inl ⟨by rfl, ?_⟩) ?_ ?_
                              rotate_left
                              ·intro w'
                               go_simp
                               with_reducible rfl
                              rotate_left
                              ·simp only [Act.put, List.setIfInBounds_toArray, List.set_cons_zero, List.set_cons_succ, i64_w, i32_w]
                               rfl
                              refine pure_ (i := 17) (N := some 13) (v := ?_) (a' := ?_) #[true, true, true, true, true, true, true, true, true, true, true, true, true, true, true, true, true, true] rfl rfl (any_of HT_.out (by kernel_rfl)) (fun _ _ _ h => h) (Or.inl ⟨by rfl, ?_⟩) ?_ ?_
                              rotate_left
                              ·intro w'
                               go_simp
                               with_reducible rfl
                              rotate_left
                              ·simp only [Act.put, List.setIfInBounds_toArray, List.set_cons_zero, List.set_cons_succ, i64_w, i32_w]
                               rfl
                              refine done_ (done_of HT_.out (by kernel_rfl)) ?_
                              try go_wp2
                              go_ret
                              exact ⟨by first | rfl | (simp [errW_none, errW_some] <;> rfl) | (simp only [← hji34]; first | rfl | (simp [errW_none, errW_some] <;> rfl)) | (simp [*, errW_none, errW_some] <;> rfl), by repeat (first | (with_reducible first | exact HB.out | apply below_alloc | apply pw_below_drewN | apply below_drew1 | refine below_set ?_ GE200.out) | exact HB.out)⟩
                            ·rw [if_neg c69] at H
                             exact absurd H (by simp)
                           ·rw [if_neg c68] at H
                            exact absurd H (by simp)
                          ·rw [if_neg c67] at H
                           exact absurd H (by simp)
                         ·rw [if_neg c66] at H
                          exact absurd H (by simp)
                        ·replace c65 := Bool.eq_false_iff.mpr c65
                         subst c65
                         have H1 : (quarrellaw11_LangLast.l0 kj60 l0 l1 t186 (wrap64 (x7_3 + 1))) = some r := by rw [if_neg (show ¬ (false = true) by decide)] at H; exact H
                         clear H
                         have H := H1
                         clear H1
                         have H' := Aside0.mk H
                         clear H
                         go_wp2
                         go_roundg kj60
                         case measure => have := HJ4.out; have := HJ12.out; have := HK3.out; have := HJ21.out; have := HJ27.out; have := HJ36.out; have := HJ60.out; omega
                         case rel => exact ⟨(wrap64 (x7_3 + 1)), (by first | rfl | (simp; done) | (simp [*]; done)), H', ⟨by have := HJ4.out; have := HJ12.out; have := HK3.out; have := HJ21.out; have := HJ27.out; have := HJ36.out; have := HJ60.out; omega⟩, ⟨by (with_reducible repeat (first | apply Kd.R_alloc | apply Kd.R_drewN | apply Kd.R_drew)); exact Kd.R_mono HO_5.out (fun _ hk => trivial)⟩, ⟨by repeat (first | (with_reducible first | exact HB.out | apply below_alloc | apply pw_below_drewN | apply below_drew1 | refine below_set ?_ GE200.out) | exact HB.out)⟩⟩
                   ·rw [if_neg c36] at H
                    exact absurd H (by simp)
                  ·rw [if_neg c35] at H
                   exact absurd H (by simp)
           ·rw [if_neg c19] at H
            exact absurd H (by simp)
          ·rw [if_neg c18] at H
           have c18b0 : decide (x7_3 ≤ (l0.length : Int)) = false := decide_eq_false c18
           clear c18
           obtain rfl := Option.some.inj H
           go_wp2
           go_ret
           exact ⟨by first | rfl | (simp [errW_none, errW_some] <;> rfl) | (simp [*, errW_none, errW_some] <;> rfl), by repeat (first | (with_reducible first | exact HB.out | apply below_alloc | apply pw_below_drewN | apply below_drew1) | exact HB.out)⟩
 ·replace c4 := Bool.eq_false_iff.mpr c4
  subst c4
  have H1 : (some false) = some r := by rw [if_neg (show ¬ (false = true) by decide)] at H; exact H
  clear H
  have H := H1
  clear H1
  obtain rfl := Option.some.inj H
  go_enter Try.func5, Try.ntmps5
  go_wp2_with (first | ((with_reducible refine gate_callee (f := 10) rfl ?_); refine goesL_ (some 14) rfl rfl Try.func10 (by kernel_rfl) rfl #[] rfl (by (try simp only [List.map_toArray, List.map_cons, List.map_nil]); first | done | rfl | (simp only [List.length_drop, List.length_take]; rfl)) ?_; (with_reducible refine (quarrellaw11_alive.calls k  false _ A3.out).mono ?_); rintro e w114 ⟨rfl, hb⟩; refine ⟨_, rfl, ?_⟩; have n0_ := Aside0.mk (below_step (by repeat (first | (with_reducible first | exact HB.out | apply below_alloc | apply pw_below_drewN | apply below_drew1) | exact HB.out)) hb); clear HB; have HB := n0_; clear n0_; (try clear hb); (try clear hb2); (try clear hk); (try clear hi)))
  go_ret
  exact ⟨by first | rfl | (simp [errW_none, errW_some] <;> rfl) | (simp [*, errW_none, errW_some] <;> rfl), by repeat (first | (with_reducible first | exact HB.out | apply below_alloc | apply pw_below_drewN | apply below_drew1) | exact HB.out)⟩

end Go.Proofs.Ytgefdpmhdidnnaa.L
