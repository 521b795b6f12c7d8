/- Part 6 of the proof of scriptPicks_holds. Conditions stand in each theorem; nothing is assumed. Gathered by a program of this session out of its texts and the kit's words. -/
import Derived.Test.YthfkgnkojhocbaaZP5
import Derived.KernelRfl
import Derived.Deep.Slices
import Derived.Deep.Fields
import Derived.ChangeSame
import Derived.ChangeArms
import Derived.Test.YthfkgnkojhocbaaRows
import Derived.WalkKit
import Derived.ProofKit
import Derived.OpenShut
import Derived.ShutString
import Derived.ChangeOld
import Derived.Below
import Derived.SizedLaws
section
namespace Go.Proofs.Ythfkgnkojhocbaa.S
open Go.RowKit Go.Proofs.YthfkgnkojhocbaaW.PrintWords Go.Proofs.YthfkgnkojhocbaaW.PrintLast Go.Proofs.YthfkgnkojhocbaaW.PrintMore
attribute [local go_sem] max2_int min2_int max_two min_two max_three min_three max_four min_four
set_option linter.unusedVariables false
set_option linter.unusedSimpArgs false
mutual
def quarrelref20_Ok.j0 : Nat → Bool → Int → Int → Int → Int → Int → Int → List Int → List Int → List (List (List (S80))) → List Int → Option (Bool)
  | 0, _, _, _, _, _, _, _, _, _, _, _ => none
  | k + 1, x27, x247000, x247001, x247002, x247003, x247004, x247005, x247006, x247007, x247008, x247009 => if x27 = true then (some false) else (quarrelref20_Ok.l0 k 0 x247000 x247001 x247002 x247003 x247004 x247005 x247006 x247007 x247008 x247009)
def quarrelref20_Ok.l0 : Nat → Int → Int → Int → Int → Int → Int → Int → List Int → List Int → List (List (List (S80))) → List Int → Option (Bool)
  | 0, _, _, _, _, _, _, _, _, _, _, _ => none
  | k + 1, x3, x247000, x247001, x247002, x247003, x247004, x247005, x247006, x247007, x247008, x247009 => if x3 < (x247006.length : Int) then (if 0 ≤ x3 then (if (rd x247006 x3) < (-128) then (some false) else (if (rd x247006 x3) > 127 then (some false) else (quarrelref20_Ok.l0 k (wrap64 (x3 + 1)) x247000 x247001 x247002 x247003 x247004 x247005 x247006 x247007 x247008 x247009))) else (none)) else (quarrelref20_Ok.l1 k 0 x247000 x247001 x247002 x247003 x247004 x247005 x247006 x247007 x247008 x247009)
def quarrelref20_Ok.l1 : Nat → Int → Int → Int → Int → Int → Int → Int → List Int → List Int → List (List (List (S80))) → List Int → Option (Bool)
  | 0, _, _, _, _, _, _, _, _, _, _, _ => none
  | k + 1, x4, x247000, x247001, x247002, x247003, x247004, x247005, x247006, x247007, x247008, x247009 => if x4 < (x247009.length : Int) then (if 0 ≤ x4 then (if (rd x247009 x4) < 0 then (some false) else (if (rd x247009 x4) > 255 then (some false) else (quarrelref20_Ok.l1 k (wrap64 (x4 + 1)) x247000 x247001 x247002 x247003 x247004 x247005 x247006 x247007 x247008 x247009))) else (none)) else (quarrelref20_Ok.l2 k 0 x247000 x247001 x247002 x247003 x247004 x247005 x247006 x247007 x247008 x247009)
def quarrelref20_Ok.l2 : Nat → Int → Int → Int → Int → Int → Int → Int → List Int → List Int → List (List (List (S80))) → List Int → Option (Bool)
  | 0, _, _, _, _, _, _, _, _, _, _, _ => none
  | k + 1, x5, x247000, x247001, x247002, x247003, x247004, x247005, x247006, x247007, x247008, x247009 => if x5 < (x247008.length : Int) then (if 0 ≤ x5 then (if ((rd_L7 x247008 x5).length : Int) > 6 then (some false) else (quarrelref20_Ok.l3 k x5 0 x247000 x247001 x247002 x247003 x247004 x247005 x247006 x247007 x247008 x247009)) else (none)) else (some true)
def quarrelref20_Ok.l3 : Nat → Int → Int → Int → Int → Int → Int → Int → Int → List Int → List Int → List (List (List (S80))) → List Int → Option (Bool)
  | 0, _, _, _, _, _, _, _, _, _, _, _, _ => none
  | k + 1, x5, x6, x247000, x247001, x247002, x247003, x247004, x247005, x247006, x247007, x247008, x247009 => if 0 ≤ x5 then (if x5 < (x247008.length : Int) then (if x6 < ((rd_L7 x247008 x5).length : Int) then (if 0 ≤ x6 then ((quarrelref11_Right.f k (rd_L6 (rd_L7 x247008 x5) x6) x247000).bind fun t256 => (if t256 = true then (quarrelref20_Ok.l3 k x5 (wrap64 (x6 + 1)) x247000 x247001 x247002 x247003 x247004 x247005 x247006 x247007 x247008 x247009) else (some false))) else (none)) else (quarrelref20_Ok.l2 k (wrap64 (x5 + 1)) x247000 x247001 x247002 x247003 x247004 x247005 x247006 x247007 x247008 x247009)) else (none)) else (none)
end
def quarrelref20_Ok.f (k : Nat) (a0_0 : Int) (a0_1 : Int) (a0_2 : Int) (a0_3 : Int) (a0_4 : Int) (a0_5 : Int) (l0_6 : List Int) (l0_7 : List Int) (l0_8 : List (List (List (S80)))) (l0_9 : List Int) : Option (Bool) := (quarrelref13_New.f k a0_0 a0_1 a0_2 a0_3 a0_4 a0_5 l0_6).bind fun t247 => (if t247 = 0 then (if (l0_8.length : Int) = a0_1 then (quarrelref20_Ok.j0 k (decide ((l0_7.length : Int) > 255)) a0_0 a0_1 a0_2 a0_3 a0_4 a0_5 l0_6 l0_7 l0_8 l0_9) else (quarrelref20_Ok.j0 k true a0_0 a0_1 a0_2 a0_3 a0_4 a0_5 l0_6 l0_7 l0_8 l0_9)) else (quarrelref20_Ok.j0 k true a0_0 a0_1 a0_2 a0_3 a0_4 a0_5 l0_6 l0_7 l0_8 l0_9))
theorem quarrelref20_Ok.mono_l : ∀ k, (∀ y0 y1 y2 y3 y4 y5 y6 y7 y8 y9 y10, LeO (quarrelref20_Ok.j0 k y0 y1 y2 y3 y4 y5 y6 y7 y8 y9 y10) (quarrelref20_Ok.j0 (k + 1) y0 y1 y2 y3 y4 y5 y6 y7 y8 y9 y10)) ∧ (∀ y0 y1 y2 y3 y4 y5 y6 y7 y8 y9 y10, LeO (quarrelref20_Ok.l0 k y0 y1 y2 y3 y4 y5 y6 y7 y8 y9 y10) (quarrelref20_Ok.l0 (k + 1) y0 y1 y2 y3 y4 y5 y6 y7 y8 y9 y10)) ∧ (∀ y0 y1 y2 y3 y4 y5 y6 y7 y8 y9 y10, LeO (quarrelref20_Ok.l1 k y0 y1 y2 y3 y4 y5 y6 y7 y8 y9 y10) (quarrelref20_Ok.l1 (k + 1) y0 y1 y2 y3 y4 y5 y6 y7 y8 y9 y10)) ∧ (∀ y0 y1 y2 y3 y4 y5 y6 y7 y8 y9 y10, LeO (quarrelref20_Ok.l2 k y0 y1 y2 y3 y4 y5 y6 y7 y8 y9 y10) (quarrelref20_Ok.l2 (k + 1) y0 y1 y2 y3 y4 y5 y6 y7 y8 y9 y10)) ∧ (∀ y0 y1 y2 y3 y4 y5 y6 y7 y8 y9 y10 y11, LeO (quarrelref20_Ok.l3 k y0 y1 y2 y3 y4 y5 y6 y7 y8 y9 y10 y11) (quarrelref20_Ok.l3 (k + 1) y0 y1 y2 y3 y4 y5 y6 y7 y8 y9 y10 y11))
  | 0 => ⟨fun _ _ _ _ _ _ _ _ _ _ _ r h => by simp [quarrelref20_Ok.j0] at h, fun _ _ _ _ _ _ _ _ _ _ _ r h => by simp [quarrelref20_Ok.l0] at h, fun _ _ _ _ _ _ _ _ _ _ _ r h => by simp [quarrelref20_Ok.l1] at h, fun _ _ _ _ _ _ _ _ _ _ _ r h => by simp [quarrelref20_Ok.l2] at h, fun _ _ _ _ _ _ _ _ _ _ _ _ r h => by simp [quarrelref20_Ok.l3] at h⟩
  | k + 1 => by
    obtain ⟨ih0, ih1, ih2, ih3, ih4⟩ := quarrelref20_Ok.mono_l k
    refine ⟨?_, ?_, ?_, ?_, ?_⟩
    · intro y0 y1 y2 y3 y4 y5 y6 y7 y8 y9 y10
      unfold quarrelref20_Ok.j0
      repeat' first
      | (with_reducible exact ih0 _ _ _ _ _ _ _ _ _ _ _)
      | (with_reducible exact ih1 _ _ _ _ _ _ _ _ _ _ _)
      | (with_reducible exact ih2 _ _ _ _ _ _ _ _ _ _ _)
      | (with_reducible exact ih3 _ _ _ _ _ _ _ _ _ _ _)
      | (with_reducible exact ih4 _ _ _ _ _ _ _ _ _ _ _ _)
      | (with_reducible exact quarrelref11_Right.mono _ _ _)
      | (with_reducible exact quarrelref13_New.mono _ _ _ _ _ _ _ _)
      | (with_reducible exact LeO.refl _)
      | (with_reducible exact LeO.none _)
      | (with_reducible refine LeO.ite ?_ ?_)
      | (with_reducible refine LeO.bind ?_ (fun _ => ?_))
      | exact ih0 _ _ _ _ _ _ _ _ _ _ _
      | exact ih1 _ _ _ _ _ _ _ _ _ _ _
      | exact ih2 _ _ _ _ _ _ _ _ _ _ _
      | exact ih3 _ _ _ _ _ _ _ _ _ _ _
      | exact ih4 _ _ _ _ _ _ _ _ _ _ _ _
      | exact quarrelref11_Right.mono _ _ _
      | exact quarrelref13_New.mono _ _ _ _ _ _ _ _
      | exact LeO.none _
      | refine LeO.ite ?_ ?_
      | refine LeO.bind ?_ (fun _ => ?_)
    · intro y0 y1 y2 y3 y4 y5 y6 y7 y8 y9 y10
      unfold quarrelref20_Ok.l0
      repeat' first
      | (with_reducible exact ih0 _ _ _ _ _ _ _ _ _ _ _)
      | (with_reducible exact ih1 _ _ _ _ _ _ _ _ _ _ _)
      | (with_reducible exact ih2 _ _ _ _ _ _ _ _ _ _ _)
      | (with_reducible exact ih3 _ _ _ _ _ _ _ _ _ _ _)
      | (with_reducible exact ih4 _ _ _ _ _ _ _ _ _ _ _ _)
      | (with_reducible exact quarrelref11_Right.mono _ _ _)
      | (with_reducible exact quarrelref13_New.mono _ _ _ _ _ _ _ _)
      | (with_reducible exact LeO.refl _)
      | (with_reducible exact LeO.none _)
      | (with_reducible refine LeO.ite ?_ ?_)
      | (with_reducible refine LeO.bind ?_ (fun _ => ?_))
      | exact ih0 _ _ _ _ _ _ _ _ _ _ _
      | exact ih1 _ _ _ _ _ _ _ _ _ _ _
      | exact ih2 _ _ _ _ _ _ _ _ _ _ _
      | exact ih3 _ _ _ _ _ _ _ _ _ _ _
      | exact ih4 _ _ _ _ _ _ _ _ _ _ _ _
      | exact quarrelref11_Right.mono _ _ _
      | exact quarrelref13_New.mono _ _ _ _ _ _ _ _
      | exact LeO.none _
      | refine LeO.ite ?_ ?_
      | refine LeO.bind ?_ (fun _ => ?_)
    · intro y0 y1 y2 y3 y4 y5 y6 y7 y8 y9 y10
      unfold quarrelref20_Ok.l1
      repeat' first
      | (with_reducible exact ih0 _ _ _ _ _ _ _ _ _ _ _)
      | (with_reducible exact ih1 _ _ _ _ _ _ _ _ _ _ _)
      | (with_reducible exact ih2 _ _ _ _ _ _ _ _ _ _ _)
      | (with_reducible exact ih3 _ _ _ _ _ _ _ _ _ _ _)
      | (with_reducible exact ih4 _ _ _ _ _ _ _ _ _ _ _ _)
      | (with_reducible exact quarrelref11_Right.mono _ _ _)
      | (with_reducible exact quarrelref13_New.mono _ _ _ _ _ _ _ _)
      | (with_reducible exact LeO.refl _)
      | (with_reducible exact LeO.none _)
      | (with_reducible refine LeO.ite ?_ ?_)
      | (with_reducible refine LeO.bind ?_ (fun _ => ?_))
      | exact ih0 _ _ _ _ _ _ _ _ _ _ _
      | exact ih1 _ _ _ _ _ _ _ _ _ _ _
      | exact ih2 _ _ _ _ _ _ _ _ _ _ _
      | exact ih3 _ _ _ _ _ _ _ _ _ _ _
      | exact ih4 _ _ _ _ _ _ _ _ _ _ _ _
      | exact quarrelref11_Right.mono _ _ _
      | exact quarrelref13_New.mono _ _ _ _ _ _ _ _
      | exact LeO.none _
      | refine LeO.ite ?_ ?_
      | refine LeO.bind ?_ (fun _ => ?_)
    · intro y0 y1 y2 y3 y4 y5 y6 y7 y8 y9 y10
      unfold quarrelref20_Ok.l2
      repeat' first
      | (with_reducible exact ih0 _ _ _ _ _ _ _ _ _ _ _)
      | (with_reducible exact ih1 _ _ _ _ _ _ _ _ _ _ _)
      | (with_reducible exact ih2 _ _ _ _ _ _ _ _ _ _ _)
      | (with_reducible exact ih3 _ _ _ _ _ _ _ _ _ _ _)
      | (with_reducible exact ih4 _ _ _ _ _ _ _ _ _ _ _ _)
      | (with_reducible exact quarrelref11_Right.mono _ _ _)
      | (with_reducible exact quarrelref13_New.mono _ _ _ _ _ _ _ _)
      | (with_reducible exact LeO.refl _)
      | (with_reducible exact LeO.none _)
      | (with_reducible refine LeO.ite ?_ ?_)
      | (with_reducible refine LeO.bind ?_ (fun _ => ?_))
      | exact ih0 _ _ _ _ _ _ _ _ _ _ _
      | exact ih1 _ _ _ _ _ _ _ _ _ _ _
      | exact ih2 _ _ _ _ _ _ _ _ _ _ _
      | exact ih3 _ _ _ _ _ _ _ _ _ _ _
      | exact ih4 _ _ _ _ _ _ _ _ _ _ _ _
      | exact quarrelref11_Right.mono _ _ _
      | exact quarrelref13_New.mono _ _ _ _ _ _ _ _
      | exact LeO.none _
      | refine LeO.ite ?_ ?_
      | refine LeO.bind ?_ (fun _ => ?_)
    · intro y0 y1 y2 y3 y4 y5 y6 y7 y8 y9 y10 y11
      unfold quarrelref20_Ok.l3
      repeat' first
      | (with_reducible exact ih0 _ _ _ _ _ _ _ _ _ _ _)
      | (with_reducible exact ih1 _ _ _ _ _ _ _ _ _ _ _)
      | (with_reducible exact ih2 _ _ _ _ _ _ _ _ _ _ _)
      | (with_reducible exact ih3 _ _ _ _ _ _ _ _ _ _ _)
      | (with_reducible exact ih4 _ _ _ _ _ _ _ _ _ _ _ _)
      | (with_reducible exact quarrelref11_Right.mono _ _ _)
      | (with_reducible exact quarrelref13_New.mono _ _ _ _ _ _ _ _)
      | (with_reducible exact LeO.refl _)
      | (with_reducible exact LeO.none _)
      | (with_reducible refine LeO.ite ?_ ?_)
      | (with_reducible refine LeO.bind ?_ (fun _ => ?_))
      | exact ih0 _ _ _ _ _ _ _ _ _ _ _
      | exact ih1 _ _ _ _ _ _ _ _ _ _ _
      | exact ih2 _ _ _ _ _ _ _ _ _ _ _
      | exact ih3 _ _ _ _ _ _ _ _ _ _ _
      | exact ih4 _ _ _ _ _ _ _ _ _ _ _ _
      | exact quarrelref11_Right.mono _ _ _
      | exact quarrelref13_New.mono _ _ _ _ _ _ _ _
      | exact LeO.none _
      | refine LeO.ite ?_ ?_
      | refine LeO.bind ?_ (fun _ => ?_)
theorem quarrelref20_Ok.mono : ∀ a0 a1 a2 a3 a4 a5 a6 a7 a8 a9 k, LeO (quarrelref20_Ok.f k a0 a1 a2 a3 a4 a5 a6 a7 a8 a9) (quarrelref20_Ok.f (k + 1) a0 a1 a2 a3 a4 a5 a6 a7 a8 a9) := by
  intro a0 a1 a2 a3 a4 a5 a6 a7 a8 a9 k
  obtain ⟨ih0, ih1, ih2, ih3, ih4⟩ := quarrelref20_Ok.mono_l k
  unfold quarrelref20_Ok.f
  repeat' first
      | (with_reducible exact ih0 _ _ _ _ _ _ _ _ _ _ _)
      | (with_reducible exact ih1 _ _ _ _ _ _ _ _ _ _ _)
      | (with_reducible exact ih2 _ _ _ _ _ _ _ _ _ _ _)
      | (with_reducible exact ih3 _ _ _ _ _ _ _ _ _ _ _)
      | (with_reducible exact ih4 _ _ _ _ _ _ _ _ _ _ _ _)
      | (with_reducible exact quarrelref11_Right.mono _ _ _)
      | (with_reducible exact quarrelref13_New.mono _ _ _ _ _ _ _ _)
      | (with_reducible exact LeO.refl _)
      | (with_reducible exact LeO.none _)
      | (with_reducible refine LeO.ite ?_ ?_)
      | (with_reducible refine LeO.bind ?_ (fun _ => ?_))
      | exact ih0 _ _ _ _ _ _ _ _ _ _ _
      | exact ih1 _ _ _ _ _ _ _ _ _ _ _
      | exact ih2 _ _ _ _ _ _ _ _ _ _ _
      | exact ih3 _ _ _ _ _ _ _ _ _ _ _
      | exact ih4 _ _ _ _ _ _ _ _ _ _ _ _
      | exact quarrelref11_Right.mono _ _ _
      | exact quarrelref13_New.mono _ _ _ _ _ _ _ _
      | exact LeO.none _
      | refine LeO.ite ?_ ?_
      | refine LeO.bind ?_ (fun _ => ?_)
end Go.Proofs.Ythfkgnkojhocbaa.S
end
section
namespace Go.Proofs.Ythfkgnkojhocbaa.S
open Go Go.RowKit Go.Proofs.YthfkgnkojhocbaaW.PrintWords
set_option linter.unusedVariables false
set_option linter.unusedSimpArgs false
theorem wrap_succ {i : Nat} (h : i ≤ 1000000000000) : wrap64 ((i : Int) + 1) = ((i + 1 : Nat) : Int) := by unfold wrap64; omega
theorem rd_at (l : List Int) (i : Nat) : rd l (i : Int) = l.getD i 0 := by unfold rd; rw [Int.toNat_natCast]
theorem rd80_at (l : List S80) (i : Nat) (h : i < l.length) : rd_T80 l (i : Int) = l[i] := by unfold rd_T80; simp [h]
theorem rd6_at (l : List (List S80)) (i : Nat) (h : i < l.length) : rd_L6 l (i : Int) = l[i] := by unfold rd_L6; simp [h]
theorem rd7_at (l : List (List (List S80))) (i : Nat) (h : i < l.length) : rd_L7 l (i : Int) = l[i] := by unfold rd_L7; simp [h]
theorem vals_l (l : List Int) (hl : l.length ≤ 1000000) : ∀ (d k i : Nat), i + d = l.length → d < k → quarrelref01_Vals.l0 k l l (i : Int) = some true := by
  intro d
  induction d with
  | zero =>
    intro k i hi hk
    obtain ⟨k, rfl⟩ : ∃ m, k = m + 1 := ⟨k - 1, by omega⟩
    rw [quarrelref01_Vals.l0, if_neg (show ¬ ((i : Int) < (l.length : Int)) by omega)]
  | succ d ih =>
    intro k i hi hk
    obtain ⟨k, rfl⟩ : ∃ m, k = m + 1 := ⟨k - 1, by omega⟩
    rw [quarrelref01_Vals.l0, if_pos (show (i : Int) < (l.length : Int) by omega), if_pos (show (0 : Int) ≤ (i : Int) by omega), if_pos (show (i : Int) < (l.length : Int) by omega), if_pos rfl, wrap_succ (by omega)]
    exact ih k (i + 1) (by omega) (by omega)
theorem vals_f (l : List Int) (hl : l.length ≤ 1000000) (k : Nat) (hk : l.length < k) : quarrelref01_Vals.f k l l = some true := by
  unfold quarrelref01_Vals.f
  rw [if_pos rfl]
  exact vals_l l hl l.length k 0 (by omega) hk
theorem ints_l (l : List Int) (hl : l.length ≤ 1000000) : ∀ (d k i : Nat), i + d = l.length → d < k → quarrelref01_Ints.l0 k l l (i : Int) = some true := by
  intro d
  induction d with
  | zero =>
    intro k i hi hk
    obtain ⟨k, rfl⟩ : ∃ m, k = m + 1 := ⟨k - 1, by omega⟩
    rw [quarrelref01_Ints.l0, if_neg (show ¬ ((i : Int) < (l.length : Int)) by omega)]
  | succ d ih =>
    intro k i hi hk
    obtain ⟨k, rfl⟩ : ∃ m, k = m + 1 := ⟨k - 1, by omega⟩
    rw [quarrelref01_Ints.l0, if_pos (show (i : Int) < (l.length : Int) by omega), if_pos (show (0 : Int) ≤ (i : Int) by omega), if_pos (show (i : Int) < (l.length : Int) by omega), if_pos rfl, wrap_succ (by omega)]
    exact ih k (i + 1) (by omega) (by omega)
theorem ints_f (l : List Int) (hl : l.length ≤ 1000000) (k : Nat) (hk : l.length < k) : quarrelref01_Ints.f k l l = some true := by
  unfold quarrelref01_Ints.f
  rw [if_pos rfl]
  exact ints_l l hl l.length k 0 (by omega) hk
theorem opsame_l (l : List S80) (hl : l.length ≤ 1000000) : ∀ (d k i : Nat), i + d = l.length → d < k → quarrelref11_Same.l0 k l l (i : Int) = some true := by
  intro d
  induction d with
  | zero =>
    intro k i hi hk
    obtain ⟨k, rfl⟩ : ∃ m, k = m + 1 := ⟨k - 1, by omega⟩
    rw [quarrelref11_Same.l0, if_neg (show ¬ ((i : Int) < (l.length : Int)) by omega)]
  | succ d ih =>
    intro k i hi hk
    obtain ⟨k, rfl⟩ : ∃ m, k = m + 1 := ⟨k - 1, by omega⟩
    rw [quarrelref11_Same.l0, if_pos (show (i : Int) < (l.length : Int) by omega), if_pos (show (0 : Int) ≤ (i : Int) by omega), if_pos (show (i : Int) < (l.length : Int) by omega), wrap_succ (by omega)]
    simp only [beq_self_eq_true, Bool.not_true, Bool.or_self, Bool.false_eq_true, if_false]
    exact ih k (i + 1) (by omega) (by omega)
theorem opsame_f (l : List S80) (hl : l.length ≤ 1000000) (k : Nat) (hk : l.length < k) : quarrelref11_Same.f k l l = some true := by
  unfold quarrelref11_Same.f
  rw [if_pos rfl]
  exact opsame_l l hl l.length k 0 (by omega) hk
/-- Few enough. -/
def Few (t : List (List S80)) : Prop := t.length ≤ 20 ∧ ∀ o ∈ t, o.length ≤ 20
section
variable (x0 x1 x2 x3 x4 x5 : Int) (f d p f' d' p' : List Int) (al : List (List (List S80))) (ha : al.length ≤ 10) (hf : ∀ t ∈ al, Few t)
include ha hf
theorem same_l1 (i : Nat) (hi : i < al.length) (B : Nat) (H : ∀ k, B < k → quarrellaw20_same.l0 k ((i + 1 : Nat) : Int) x0 x1 x2 x3 x4 x5 f d al p x0 x1 x2 x3 x4 x5 f' d' al p' = some true) :
    ∀ (e k j : Nat), j + e = al[i].length → e + 1 + B < k → 30 ≤ B → quarrellaw20_same.l1 k (i : Int) (j : Int) x0 x1 x2 x3 x4 x5 f d al p x0 x1 x2 x3 x4 x5 f' d' al p' = some true := by
  have hF := hf al[i] (List.getElem_mem hi)
  have h7 := rd7_at al i hi
  have h20 := hF.1
  intro e
  induction e with
  | zero =>
    intro k j hj hk hB
    obtain ⟨k, rfl⟩ : ∃ m, k = m + 1 := ⟨k - 1, by omega⟩
    rw [quarrellaw20_same.l1, h7, if_pos (show (0 : Int) ≤ (i : Int) by omega), if_pos (show (i : Int) < (al.length : Int) by omega), if_neg (show ¬ ((j : Int) < (al[i].length : Int)) by omega), wrap_succ (by omega)]
    exact H k (by omega)
  | succ e ih =>
    intro k j hj hk hB
    obtain ⟨k, rfl⟩ : ∃ m, k = m + 1 := ⟨k - 1, by omega⟩
    have hj' : j < al[i].length := by omega
    have hO := hF.2 al[i][j] (List.getElem_mem hj')
    rw [quarrellaw20_same.l1, h7, if_pos (show (0 : Int) ≤ (i : Int) by omega), if_pos (show (i : Int) < (al.length : Int) by omega), if_pos (show (j : Int) < (al[i].length : Int) by omega), if_pos (show (0 : Int) ≤ (j : Int) by omega),
      if_pos (show (i : Int) < (al.length : Int) by omega), if_pos (show (j : Int) < (al[i].length : Int) by omega), rd6_at al[i] j hj', opsame_f _ (by omega) k (by omega), Option.bind_some, if_pos rfl, wrap_succ (by omega)]
    exact ih k (j + 1) (by omega) (by omega) hB
theorem same_l0 : ∀ (e k i : Nat), i + e = al.length → 100 * e + 50 < k → quarrellaw20_same.l0 k (i : Int) x0 x1 x2 x3 x4 x5 f d al p x0 x1 x2 x3 x4 x5 f' d' al p' = some true := by
  intro e
  induction e with
  | zero =>
    intro k i hi hk
    obtain ⟨k, rfl⟩ : ∃ m, k = m + 1 := ⟨k - 1, by omega⟩
    rw [quarrellaw20_same.l0, if_neg (show ¬ ((i : Int) < (al.length : Int)) by omega)]
  | succ e ih =>
    intro k i hi hk
    obtain ⟨k, rfl⟩ : ∃ m, k = m + 1 := ⟨k - 1, by omega⟩
    have hi' : i < al.length := by omega
    have hF := hf al[i] (List.getElem_mem hi')
    have h20 := hF.1
    rw [quarrellaw20_same.l0, if_pos (show (i : Int) < (al.length : Int) by omega), if_pos (show (0 : Int) ≤ (i : Int) by omega), if_pos (show (i : Int) < (al.length : Int) by omega), if_pos rfl]
    exact same_l1 x0 x1 x2 x3 x4 x5 f d p f' d' p' al ha hf i hi' (100 * e + 50) (fun k hk => ih k (i + 1) (by omega) hk) al[i].length k 0 (by omega) (by omega) (by omega)
end
theorem same_f (x0 x1 x2 x3 x4 x5 : Int) (f d p : List Int) (al : List (List (List S80))) (ha : al.length ≤ 10) (hf : ∀ t ∈ al, Few t) (h1 : f.length ≤ 1000000) (h2 : p.length ≤ 1000000) (k : Nat) (hk : 2000000 < k) :
    quarrellaw20_same.f k x0 x1 x2 x3 x4 x5 f d al p x0 x1 x2 x3 x4 x5 f d al p = some true := by
  obtain ⟨k', e⟩ : ∃ m, k = m + 1 := ⟨k - 1, by omega⟩
  unfold quarrellaw20_same.f
  simp only [beq_self_eq_true, Bool.not_true, Bool.or_self, Bool.false_eq_true, if_false]
  rw [vals_f f h1 k (by omega), Option.bind_some, if_pos rfl, if_pos trivial, ints_f p h2 k (by omega), Option.bind_some, if_pos rfl, e, quarrellaw20_same.j0]
  simp only [bne_self_eq_false, Bool.false_eq_true, if_false]
  exact same_l0 x0 x1 x2 x3 x4 x5 f d p f d p al ha hf al.length k' 0 (by omega) (by omega)
section
variable (x0 x1 x2 x3 x4 x5 : Int) (f d : List Int) (al : List (List (List S80))) (ha : al.length ≤ 10)
include ha
theorem great_l1 (i : Nat) (hi : i < al.length) (h20 : al[i].length ≤ 20) (B : Nat) (H : ∀ k, B < k → ∃ v, quarrellaw16_Great.l0 k ((i + 1 : Nat) : Int) x0 x1 x2 x3 x4 x5 f d al = some v ∧ (v ≤ 0 → ∀ t ∈ al.drop (i + 1), Few t)) :
    ∀ (e k j : Nat), j + e = al[i].length → e + 1 + B < k → ∃ v, quarrellaw16_Great.l1 k (i : Int) (j : Int) x0 x1 x2 x3 x4 x5 f d al = some v ∧ (v ≤ 0 → (∀ o ∈ al[i].drop j, o.length ≤ 20) ∧ ∀ t ∈ al.drop (i + 1), Few t) := by
  have h7 := rd7_at al i hi
  intro e
  induction e with
  | zero =>
    intro k j hj hk
    obtain ⟨k, rfl⟩ : ∃ m, k = m + 1 := ⟨k - 1, by omega⟩
    rw [quarrellaw16_Great.l1, h7, if_pos (show (0 : Int) ≤ (i : Int) by omega), if_pos (show (i : Int) < (al.length : Int) by omega), if_neg (show ¬ ((j : Int) < (al[i].length : Int)) by omega), wrap_succ (by omega)]
    obtain ⟨v, e1, e2⟩ := H k (by omega)
    refine ⟨v, e1, fun h => ⟨fun o ho => ?_, e2 h⟩⟩
    rw [List.drop_eq_nil_of_le (by omega)] at ho
    cases ho
  | succ e ih =>
    intro k j hj hk
    obtain ⟨k, rfl⟩ : ∃ m, k = m + 1 := ⟨k - 1, by omega⟩
    have hj' : j < al[i].length := by omega
    rw [quarrellaw16_Great.l1, h7, if_pos (show (0 : Int) ≤ (i : Int) by omega), if_pos (show (i : Int) < (al.length : Int) by omega), if_pos (show (j : Int) < (al[i].length : Int) by omega), if_pos (show (0 : Int) ≤ (j : Int) by omega), rd6_at al[i] j hj']
    by_cases h : (al[i][j].length : Int) > 20
    · rw [if_pos h]
      exact ⟨1, rfl, fun h' => by omega⟩
    · rw [if_neg h, wrap_succ (by omega)]
      obtain ⟨v, e1, e2⟩ := ih k (j + 1) (by omega) (by omega)
      refine ⟨v, e1, fun h' => ⟨fun o ho => ?_, (e2 h').2⟩⟩
      rw [List.drop_eq_getElem_cons hj'] at ho
      rcases List.mem_cons.1 ho with rfl | ho
      · omega
      · exact (e2 h').1 o ho
theorem great_l0 : ∀ (e k i : Nat), i + e = al.length → 100 * e + 50 < k → ∃ v, quarrellaw16_Great.l0 k (i : Int) x0 x1 x2 x3 x4 x5 f d al = some v ∧ (v ≤ 0 → ∀ t ∈ al.drop i, Few t) := by
  intro e
  induction e with
  | zero =>
    intro k i hi hk
    obtain ⟨k, rfl⟩ : ∃ m, k = m + 1 := ⟨k - 1, by omega⟩
    rw [quarrellaw16_Great.l0, if_neg (show ¬ ((i : Int) < (al.length : Int)) by omega)]
    refine ⟨0, rfl, fun _ t ht => ?_⟩
    rw [List.drop_eq_nil_of_le (by omega)] at ht
    cases ht
  | succ e ih =>
    intro k i hi hk
    obtain ⟨k, rfl⟩ : ∃ m, k = m + 1 := ⟨k - 1, by omega⟩
    have hi' : i < al.length := by omega
    rw [quarrellaw16_Great.l0, if_pos (show (i : Int) < (al.length : Int) by omega), if_pos (show (0 : Int) ≤ (i : Int) by omega), rd7_at al i hi']
    by_cases h : (al[i].length : Int) > 20
    · rw [if_pos h]
      exact ⟨1, rfl, fun h' => by omega⟩
    · rw [if_neg h]
      obtain ⟨v, e1, e2⟩ := great_l1 x0 x1 x2 x3 x4 x5 f d al ha i hi' (by omega) (100 * e + 50) (fun k hk => ih k (i + 1) (by omega) hk) al[i].length k 0 (by omega) (by omega)
      refine ⟨v, e1, fun h' t ht => ?_⟩
      rw [List.drop_eq_getElem_cons hi'] at ht
      rcases List.mem_cons.1 ht with rfl | ht
      · exact ⟨by omega, by simpa using (e2 h').1⟩
      · exact (e2 h').2 t ht
end
/-- No more than the statements go through. -/
structure Small (f d : List Int) (al : List (List (List S80))) (p : List Int) : Prop where
  f : f.length ≤ 20
  d : d.length ≤ 1000
  a : al.length ≤ 10
  t : ∀ t ∈ al, Few t
  p : p.length ≤ 1000
theorem great_f (x0 x1 x2 x3 x4 x5 : Int) (f d : List Int) (al : List (List (List S80))) (p : List Int) (k : Nat) (hk : 2000000 < k) :
    ∃ b, quarrellaw20_great.f k x0 x1 x2 x3 x4 x5 f d al p = some b ∧ (b = false → Small f d al p) := by
  obtain ⟨k', e⟩ : ∃ m, k = m + 1 := ⟨k - 1, by omega⟩
  unfold quarrellaw20_great.f quarrellaw16_Great.f
  by_cases h1 : (p.length : Int) > 1000
  · exact ⟨true, by rw [if_pos h1], fun h => by cases h⟩
  rw [if_neg h1]
  by_cases h2 : (d.length : Int) > 1000
  · exact ⟨true, by rw [if_pos h2], fun h => by cases h⟩
  rw [if_neg h2]
  by_cases h3 : (f.length : Int) > 20
  · rw [if_pos h3, e, quarrellaw16_Great.j0, if_pos rfl, Option.bind_some]
    exact ⟨true, rfl, fun h => by cases h⟩
  rw [if_neg h3, if_neg (by simp), e, quarrellaw16_Great.j0]
  by_cases h4 : (al.length : Int) > 10
  · rw [if_pos (decide_eq_true h4), Option.bind_some]
    exact ⟨true, rfl, fun h => by cases h⟩
  rw [if_neg (by simp; omega)]
  obtain ⟨v, e1, e2⟩ := great_l0 0 0 0 0 0 0 f [] al (by omega) al.length k' 0 (by omega) (by omega)
  rw [show ((0 : Nat) : Int) = 0 from rfl] at e1
  rw [e1, Option.bind_some]
  refine ⟨decide (v > 0), rfl, fun h => ⟨by omega, by omega, by omega, ?_, by omega⟩⟩
  simpa using e2 (by have := of_decide_eq_false h; omega)
section
variable (x0 x1 x2 x3 x4 x5 : Int) (f d : List Int) (al : List (List (List S80))) (p : List Int)
end
end Go.Proofs.Ythfkgnkojhocbaa.S
end
section
namespace Go.Proofs.Ythfkgnkojhocbaa.S
open Go Go.RowKit Go.Proofs.YthfkgnkojhocbaaW.PrintWords
set_option linter.unusedVariables false
set_option linter.unusedSimpArgs false
theorem u8_rng {x : Int} (h : (Lit.int .u8 x).wf = true) : 0 ≤ x ∧ x ≤ 255 := by
  simp [Lit.wf, IntKind.min, IntKind.max, IntKind.signed, IntKind.bits] at h
  omega
theorem u8_isB {l : List Int} (h : ∀ x ∈ l, (Lit.int .u8 x).wf = true) : isB l := fun x hx => u8_rng (h x hx)
theorem isB_bytesB {l : List Int} (h : isB l) : bytesB l = true := by
  unfold bytesB
  rw [List.all_eq_true]
  exact fun x hx => decide_eq_true (h x hx)
theorem getS_f (l : List Int) (hb : isB l) (hm : l.length ≤ 1000000) (k : Nat) : script_Get.f k l = some (flatG (getF l)) := by
  unfold script_Get.f
  rw [if_pos ⟨hm, isB_bytesB hb⟩]
theorem getS_t (l : List Int) (hb : isB l) (hm : l.length ≤ 1000000) (k : Nat) (s : Rd) (at_ e : Int) (h : getF l = (s, at_, e)) :
    script_Get.f k l = some (s.c.f0, s.c.f1, s.c.f2, s.c.f3, s.c.f4, s.c.f5, s.f, s.d, s.a, s.p, at_, e) := by
  rw [getS_f l hb hm k, h]
  rfl
set_option maxRecDepth 100000 in
theorem alive_get : getF [1, 1, 0, 9, 5, 1, 2, 7, 0, 0] = (⟨10, ⟨1, 1, 9, 5, 1, 2⟩, [7], [], [[]], []⟩, -1, 0) := by kernel_rfl
theorem alive_f (k : Nat) (hk : 100 < k) : quarrellaw20_alive.f k = some true := by
  unfold quarrellaw20_alive.f
  rw [getS_f _ (by intro x hx; simp at hx; omega) (by simp) k, alive_get, Option.bind_some]
  have hF : flatG (⟨10, ⟨1, 1, 9, 5, 1, 2⟩, [7], [], [[]], []⟩, -1, 0) = (1, 1, 9, 5, 1, 2, [7], [], [[]], [], -1, 0) := rfl
  rw [hF]
  refine (if_pos rfl).trans ((if_pos rfl).trans ((if_pos rfl).trans ?_))
  rw [vals_f [7] (by simp) k (by simp; omega), Option.bind_some, if_pos rfl]
  refine (if_pos rfl).trans ?_
  show some (wrap64 (((0 : Nat) : Int) + ((0 : Nat) : Int)) == 0) = some true
  simp [wrap64]
theorem isB_app {a b : List Int} (h : isB a) (k : isB b) : isB (a ++ b) := fun x hx => by
  rcases List.mem_append.1 hx with hx | hx
  · exact h x hx
  · exact k x hx
theorem isB_mod (l : List Int) : isB (l.map (· % 256)) := fun x hx => by
  obtain ⟨y, _, rfl⟩ := List.mem_map.1 hx
  show 0 ≤ y % 256 ∧ y % 256 ≤ 255
  omega
theorem isB_one {x : Int} {l : List Int} (h : isB l) : isB (x % 256 :: l) := fun y hy => by
  rcases List.mem_cons.1 hy with rfl | hy
  · omega
  · exact h y hy
theorem isB_nil : isB [] := fun x hx => by cases hx
theorem isB_opB (o : S80) : isB (opB o) := isB_one (isB_one (isB_one isB_nil))
theorem isB_ops : ∀ os : List S80, isB (os.flatMap opB)
  | [] => isB_nil
  | o :: os => by rw [List.flatMap_cons]; exact isB_app (isB_opB o) (isB_ops os)
theorem isB_ts : ∀ t : List (List S80), isB (t.flatMap encT)
  | [] => isB_nil
  | o :: t => by rw [List.flatMap_cons]; exact isB_app (isB_one (isB_ops o)) (isB_ts t)
theorem isB_al : ∀ t : List (List (List S80)), isB (t.flatMap encA)
  | [] => isB_nil
  | o :: t => by rw [List.flatMap_cons]; exact isB_app (isB_one (isB_ts o)) (isB_al t)
theorem isB_put (c : S25) (f : List Int) {d : List Int} (hd : isB d) (a : List (List (List S80))) (p : List Int) : isB (putF c f d a p) :=
  isB_app (isB_one (isB_one (isB_one (isB_one (isB_one (isB_one (isB_one isB_nil))))))) (isB_app (isB_mod f) (isB_app (isB_al a) (isB_one (isB_app hd (isB_mod p)))))
theorem ops_len (os : List S80) (h : os.length ≤ 20) : (os.flatMap opB).length ≤ 60 := by rw [opsB_len]; omega
theorem encT_len : ∀ t : List (List S80), (∀ o ∈ t, o.length ≤ 20) → (t.flatMap encT).length ≤ 61 * t.length
  | [], _ => by simp
  | o :: t, h => by
    rw [List.flatMap_cons, List.length_append, List.length_cons]
    have := encT_len t (fun x hx => h x (by simp [hx]))
    have h1 := ops_len o (h o (by simp))
    have h2 : (encT o).length = 1 + (o.flatMap opB).length := by unfold encT; rw [List.length_cons]; omega
    omega
theorem encA_len : ∀ al : List (List (List S80)), (∀ t ∈ al, Few t) → (al.flatMap encA).length ≤ 1300 * al.length
  | [], _ => by simp
  | t :: al, h => by
    rw [List.flatMap_cons, List.length_append, List.length_cons]
    have := encA_len al (fun x hx => h x (by simp [hx]))
    have ht := h t (by simp)
    have h1 := encT_len t ht.2
    have h2 := ht.1
    have h3 : (encA t).length = 1 + (t.flatMap encT).length := by unfold encA; rw [List.length_cons]; omega
    omega
theorem put_len (c : S25) (f d : List Int) (a : List (List (List S80))) (p : List Int) (h : f.length ≤ 20) (h1 : d.length ≤ 3000) (h2 : a.length ≤ 10) (h3 : ∀ t ∈ a, Few t) (h4 : p.length ≤ 3000) :
    8 ≤ (putF c f d a p).length ∧ (putF c f d a p).length ≤ 100000 := by
  have := encA_len a h3
  unfold putF
  simp only [List.length_append, List.length_map, List.length_cons, head7, List.length_nil]
  omega
end Go.Proofs.Ythfkgnkojhocbaa.S
end
section
namespace Go.Proofs.Ythfkgnkojhocbaa.S
open Go.RowKit Go.Proofs.YthfkgnkojhocbaaW.PrintWords Go.Proofs.YthfkgnkojhocbaaW.PrintLast Go.Proofs.YthfkgnkojhocbaaW.PrintMore
attribute [local go_sem] max2_int min2_int max_two min_two max_three min_three max_four min_four
set_option linter.unusedVariables false
set_option linter.unusedSimpArgs false
mutual
def quarrelref20_Put.l0 : Nat → List Int → Int → Int → Int → Int → Int → Int → Int → List Int → List Int → List (List (List (S80))) → List Int → Option (List Int)
  | 0, _, _, _, _, _, _, _, _, _, _, _, _ => none
  | k + 1, x4, x5, x302000, x302001, x302002, x302003, x302004, x302005, x302006, x302007, x302008, x302009 => if x5 < (x302006.length : Int) then (if 0 ≤ x5 then ((quarrelref20_low.f (rd x302006 x5)).bind fun t307 => (if x4.length < 140737488355328 then (quarrelref20_Put.l0 k (x4 ++ [t307]) (wrap64 (x5 + 1)) x302000 x302001 x302002 x302003 x302004 x302005 x302006 x302007 x302008 x302009) else (none))) else (none)) else (quarrelref20_Put.l1 k x4 0 x302000 x302001 x302002 x302003 x302004 x302005 x302006 x302007 x302008 x302009)
def quarrelref20_Put.l1 : Nat → List Int → Int → Int → Int → Int → Int → Int → Int → List Int → List Int → List (List (List (S80))) → List Int → Option (List Int)
  | 0, _, _, _, _, _, _, _, _, _, _, _, _ => none
  | k + 1, x4, x6, x302000, x302001, x302002, x302003, x302004, x302005, x302006, x302007, x302008, x302009 => if x6 < (x302008.length : Int) then (if 0 ≤ x6 then (if x4.length < 140737488355328 then (quarrelref20_Put.l2 k (x4 ++ [(((rd_L7 x302008 x6).length : Int)) % 256]) x6 0 x302000 x302001 x302002 x302003 x302004 x302005 x302006 x302007 x302008 x302009) else (none)) else (none)) else (if x4.length < 140737488355328 then (quarrelref20_Put.l4 k (x4 ++ [((x302007.length : Int)) % 256]) 0 x302000 x302001 x302002 x302003 x302004 x302005 x302006 x302007 x302008 x302009) else (none))
def quarrelref20_Put.l2 : Nat → List Int → Int → Int → Int → Int → Int → Int → Int → Int → List Int → List Int → List (List (List (S80))) → List Int → Option (List Int)
  | 0, _, _, _, _, _, _, _, _, _, _, _, _, _ => none
  | k + 1, x4, x6, x7, x302000, x302001, x302002, x302003, x302004, x302005, x302006, x302007, x302008, x302009 => if 0 ≤ x6 then (if x6 < (x302008.length : Int) then (if x7 < ((rd_L7 x302008 x6).length : Int) then (if 0 ≤ x7 then (if x4.length < 140737488355328 then (quarrelref20_Put.l3 k (x4 ++ [(((rd_L6 (rd_L7 x302008 x6) x7).length : Int)) % 256]) x6 x7 (rd_L6 (rd_L7 x302008 x6) x7) 0 x302000 x302001 x302002 x302003 x302004 x302005 x302006 x302007 x302008 x302009) else (none)) else (none)) else (quarrelref20_Put.l1 k x4 (wrap64 (x6 + 1)) x302000 x302001 x302002 x302003 x302004 x302005 x302006 x302007 x302008 x302009)) else (none)) else (none)
def quarrelref20_Put.l3 : Nat → List Int → Int → Int → List (S80) → Int → Int → Int → Int → Int → Int → Int → List Int → List Int → List (List (List (S80))) → List Int → Option (List Int)
  | 0, _, _, _, _, _, _, _, _, _, _, _, _, _, _, _ => none
  | k + 1, x4, x6, x7, x8, x9, x302000, x302001, x302002, x302003, x302004, x302005, x302006, x302007, x302008, x302009 => if x9 < (x8.length : Int) then (if 0 ≤ x9 then ((quarrelref20_low.f ((rd_T80 x8 x9).f2)).bind fun t324 => ((some (([((rd_T80 x8 x9).f0) % 256, ((rd_T80 x8 x9).f1) % 256, t324] : List Int) : List Int)).bind fun y325 => (if x4.length + y325.length < 140737488355328 then (quarrelref20_Put.l3 k (x4 ++ y325) x6 x7 x8 (wrap64 (x9 + 1)) x302000 x302001 x302002 x302003 x302004 x302005 x302006 x302007 x302008 x302009) else (none)))) else (none)) else (quarrelref20_Put.l2 k x4 x6 (wrap64 (x7 + 1)) x302000 x302001 x302002 x302003 x302004 x302005 x302006 x302007 x302008 x302009)
def quarrelref20_Put.l4 : Nat → List Int → Int → Int → Int → Int → Int → Int → Int → List Int → List Int → List (List (List (S80))) → List Int → Option (List Int)
  | 0, _, _, _, _, _, _, _, _, _, _, _, _ => none
  | k + 1, x4, x10, x302000, x302001, x302002, x302003, x302004, x302005, x302006, x302007, x302008, x302009 => if x10 < (x302007.length : Int) then (if 0 ≤ x10 then (if x4.length < 140737488355328 then (quarrelref20_Put.l4 k (x4 ++ [rd x302007 x10]) (wrap64 (x10 + 1)) x302000 x302001 x302002 x302003 x302004 x302005 x302006 x302007 x302008 x302009) else (none)) else (none)) else (quarrelref20_Put.l5 k x4 0 x302000 x302001 x302002 x302003 x302004 x302005 x302006 x302007 x302008 x302009)
def quarrelref20_Put.l5 : Nat → List Int → Int → Int → Int → Int → Int → Int → Int → List Int → List Int → List (List (List (S80))) → List Int → Option (List Int)
  | 0, _, _, _, _, _, _, _, _, _, _, _, _ => none
  | k + 1, x4, x11, x302000, x302001, x302002, x302003, x302004, x302005, x302006, x302007, x302008, x302009 => if x11 < (x302009.length : Int) then (if 0 ≤ x11 then (if x4.length < 140737488355328 then (quarrelref20_Put.l5 k (x4 ++ [(rd x302009 x11) % 256]) (wrap64 (x11 + 1)) x302000 x302001 x302002 x302003 x302004 x302005 x302006 x302007 x302008 x302009) else (none)) else (none)) else (some x4)
end
def quarrelref20_Put.f (k : Nat) (a0_0 : Int) (a0_1 : Int) (a0_2 : Int) (a0_3 : Int) (a0_4 : Int) (a0_5 : Int) (l0_6 : List Int) (l0_7 : List Int) (l0_8 : List (List (List (S80)))) (l0_9 : List Int) : Option (List Int) := quarrelref20_Put.l0 k (([(a0_0) % 256, (a0_1) % 256, (wrap64 (Int.tdiv a0_2 256)) % 256, (Int.tmod a0_2 256) % 256, (a0_3) % 256, (a0_4) % 256, (a0_5) % 256] : List Int)) 0 a0_0 a0_1 a0_2 a0_3 a0_4 a0_5 l0_6 l0_7 l0_8 l0_9
theorem quarrelref20_Put.mono_l : ∀ k, (∀ y0 y1 y2 y3 y4 y5 y6 y7 y8 y9 y10 y11, LeO (quarrelref20_Put.l0 k y0 y1 y2 y3 y4 y5 y6 y7 y8 y9 y10 y11) (quarrelref20_Put.l0 (k + 1) y0 y1 y2 y3 y4 y5 y6 y7 y8 y9 y10 y11)) ∧ (∀ y0 y1 y2 y3 y4 y5 y6 y7 y8 y9 y10 y11, LeO (quarrelref20_Put.l1 k y0 y1 y2 y3 y4 y5 y6 y7 y8 y9 y10 y11) (quarrelref20_Put.l1 (k + 1) y0 y1 y2 y3 y4 y5 y6 y7 y8 y9 y10 y11)) ∧ (∀ y0 y1 y2 y3 y4 y5 y6 y7 y8 y9 y10 y11 y12, LeO (quarrelref20_Put.l2 k y0 y1 y2 y3 y4 y5 y6 y7 y8 y9 y10 y11 y12) (quarrelref20_Put.l2 (k + 1) y0 y1 y2 y3 y4 y5 y6 y7 y8 y9 y10 y11 y12)) ∧ (∀ y0 y1 y2 y3 y4 y5 y6 y7 y8 y9 y10 y11 y12 y13 y14, LeO (quarrelref20_Put.l3 k y0 y1 y2 y3 y4 y5 y6 y7 y8 y9 y10 y11 y12 y13 y14) (quarrelref20_Put.l3 (k + 1) y0 y1 y2 y3 y4 y5 y6 y7 y8 y9 y10 y11 y12 y13 y14)) ∧ (∀ y0 y1 y2 y3 y4 y5 y6 y7 y8 y9 y10 y11, LeO (quarrelref20_Put.l4 k y0 y1 y2 y3 y4 y5 y6 y7 y8 y9 y10 y11) (quarrelref20_Put.l4 (k + 1) y0 y1 y2 y3 y4 y5 y6 y7 y8 y9 y10 y11)) ∧ (∀ y0 y1 y2 y3 y4 y5 y6 y7 y8 y9 y10 y11, LeO (quarrelref20_Put.l5 k y0 y1 y2 y3 y4 y5 y6 y7 y8 y9 y10 y11) (quarrelref20_Put.l5 (k + 1) y0 y1 y2 y3 y4 y5 y6 y7 y8 y9 y10 y11))
  | 0 => ⟨fun _ _ _ _ _ _ _ _ _ _ _ _ r h => by simp [quarrelref20_Put.l0] at h, fun _ _ _ _ _ _ _ _ _ _ _ _ r h => by simp [quarrelref20_Put.l1] at h, fun _ _ _ _ _ _ _ _ _ _ _ _ _ r h => by simp [quarrelref20_Put.l2] at h, fun _ _ _ _ _ _ _ _ _ _ _ _ _ _ _ r h => by simp [quarrelref20_Put.l3] at h, fun _ _ _ _ _ _ _ _ _ _ _ _ r h => by simp [quarrelref20_Put.l4] at h, fun _ _ _ _ _ _ _ _ _ _ _ _ r h => by simp [quarrelref20_Put.l5] at h⟩
  | k + 1 => by
    obtain ⟨ih0, ih1, ih2, ih3, ih4, ih5⟩ := quarrelref20_Put.mono_l k
    refine ⟨?_, ?_, ?_, ?_, ?_, ?_⟩
    · intro y0 y1 y2 y3 y4 y5 y6 y7 y8 y9 y10 y11
      unfold quarrelref20_Put.l0
      repeat' first
      | (with_reducible exact ih0 _ _ _ _ _ _ _ _ _ _ _ _)
      | (with_reducible exact ih1 _ _ _ _ _ _ _ _ _ _ _ _)
      | (with_reducible exact ih2 _ _ _ _ _ _ _ _ _ _ _ _ _)
      | (with_reducible exact ih3 _ _ _ _ _ _ _ _ _ _ _ _ _ _ _)
      | (with_reducible exact ih4 _ _ _ _ _ _ _ _ _ _ _ _)
      | (with_reducible exact ih5 _ _ _ _ _ _ _ _ _ _ _ _)
      | (with_reducible exact LeO.refl _)
      | (with_reducible exact LeO.none _)
      | (with_reducible refine LeO.ite ?_ ?_)
      | (with_reducible refine LeO.bind ?_ (fun _ => ?_))
      | exact ih0 _ _ _ _ _ _ _ _ _ _ _ _
      | exact ih1 _ _ _ _ _ _ _ _ _ _ _ _
      | exact ih2 _ _ _ _ _ _ _ _ _ _ _ _ _
      | exact ih3 _ _ _ _ _ _ _ _ _ _ _ _ _ _ _
      | exact ih4 _ _ _ _ _ _ _ _ _ _ _ _
      | exact ih5 _ _ _ _ _ _ _ _ _ _ _ _
      | exact LeO.none _
      | refine LeO.ite ?_ ?_
      | refine LeO.bind ?_ (fun _ => ?_)
    · intro y0 y1 y2 y3 y4 y5 y6 y7 y8 y9 y10 y11
      unfold quarrelref20_Put.l1
      repeat' first
      | (with_reducible exact ih0 _ _ _ _ _ _ _ _ _ _ _ _)
      | (with_reducible exact ih1 _ _ _ _ _ _ _ _ _ _ _ _)
      | (with_reducible exact ih2 _ _ _ _ _ _ _ _ _ _ _ _ _)
      | (with_reducible exact ih3 _ _ _ _ _ _ _ _ _ _ _ _ _ _ _)
      | (with_reducible exact ih4 _ _ _ _ _ _ _ _ _ _ _ _)
      | (with_reducible exact ih5 _ _ _ _ _ _ _ _ _ _ _ _)
      | (with_reducible exact LeO.refl _)
      | (with_reducible exact LeO.none _)
      | (with_reducible refine LeO.ite ?_ ?_)
      | (with_reducible refine LeO.bind ?_ (fun _ => ?_))
      | exact ih0 _ _ _ _ _ _ _ _ _ _ _ _
      | exact ih1 _ _ _ _ _ _ _ _ _ _ _ _
      | exact ih2 _ _ _ _ _ _ _ _ _ _ _ _ _
      | exact ih3 _ _ _ _ _ _ _ _ _ _ _ _ _ _ _
      | exact ih4 _ _ _ _ _ _ _ _ _ _ _ _
      | exact ih5 _ _ _ _ _ _ _ _ _ _ _ _
      | exact LeO.none _
      | refine LeO.ite ?_ ?_
      | refine LeO.bind ?_ (fun _ => ?_)
    · intro y0 y1 y2 y3 y4 y5 y6 y7 y8 y9 y10 y11 y12
      unfold quarrelref20_Put.l2
      repeat' first
      | (with_reducible exact ih0 _ _ _ _ _ _ _ _ _ _ _ _)
      | (with_reducible exact ih1 _ _ _ _ _ _ _ _ _ _ _ _)
      | (with_reducible exact ih2 _ _ _ _ _ _ _ _ _ _ _ _ _)
      | (with_reducible exact ih3 _ _ _ _ _ _ _ _ _ _ _ _ _ _ _)
      | (with_reducible exact ih4 _ _ _ _ _ _ _ _ _ _ _ _)
      | (with_reducible exact ih5 _ _ _ _ _ _ _ _ _ _ _ _)
      | (with_reducible exact LeO.refl _)
      | (with_reducible exact LeO.none _)
      | (with_reducible refine LeO.ite ?_ ?_)
      | (with_reducible refine LeO.bind ?_ (fun _ => ?_))
      | exact ih0 _ _ _ _ _ _ _ _ _ _ _ _
      | exact ih1 _ _ _ _ _ _ _ _ _ _ _ _
      | exact ih2 _ _ _ _ _ _ _ _ _ _ _ _ _
      | exact ih3 _ _ _ _ _ _ _ _ _ _ _ _ _ _ _
      | exact ih4 _ _ _ _ _ _ _ _ _ _ _ _
      | exact ih5 _ _ _ _ _ _ _ _ _ _ _ _
      | exact LeO.none _
      | refine LeO.ite ?_ ?_
      | refine LeO.bind ?_ (fun _ => ?_)
    · intro y0 y1 y2 y3 y4 y5 y6 y7 y8 y9 y10 y11 y12 y13 y14
      unfold quarrelref20_Put.l3
      repeat' first
      | (with_reducible exact ih0 _ _ _ _ _ _ _ _ _ _ _ _)
      | (with_reducible exact ih1 _ _ _ _ _ _ _ _ _ _ _ _)
      | (with_reducible exact ih2 _ _ _ _ _ _ _ _ _ _ _ _ _)
      | (with_reducible exact ih3 _ _ _ _ _ _ _ _ _ _ _ _ _ _ _)
      | (with_reducible exact ih4 _ _ _ _ _ _ _ _ _ _ _ _)
      | (with_reducible exact ih5 _ _ _ _ _ _ _ _ _ _ _ _)
      | (with_reducible exact LeO.refl _)
      | (with_reducible exact LeO.none _)
      | (with_reducible refine LeO.ite ?_ ?_)
      | (with_reducible refine LeO.bind ?_ (fun _ => ?_))
      | exact ih0 _ _ _ _ _ _ _ _ _ _ _ _
      | exact ih1 _ _ _ _ _ _ _ _ _ _ _ _
      | exact ih2 _ _ _ _ _ _ _ _ _ _ _ _ _
      | exact ih3 _ _ _ _ _ _ _ _ _ _ _ _ _ _ _
      | exact ih4 _ _ _ _ _ _ _ _ _ _ _ _
      | exact ih5 _ _ _ _ _ _ _ _ _ _ _ _
      | exact LeO.none _
      | refine LeO.ite ?_ ?_
      | refine LeO.bind ?_ (fun _ => ?_)
    · intro y0 y1 y2 y3 y4 y5 y6 y7 y8 y9 y10 y11
      unfold quarrelref20_Put.l4
      repeat' first
      | (with_reducible exact ih0 _ _ _ _ _ _ _ _ _ _ _ _)
      | (with_reducible exact ih1 _ _ _ _ _ _ _ _ _ _ _ _)
      | (with_reducible exact ih2 _ _ _ _ _ _ _ _ _ _ _ _ _)
      | (with_reducible exact ih3 _ _ _ _ _ _ _ _ _ _ _ _ _ _ _)
      | (with_reducible exact ih4 _ _ _ _ _ _ _ _ _ _ _ _)
      | (with_reducible exact ih5 _ _ _ _ _ _ _ _ _ _ _ _)
      | (with_reducible exact LeO.refl _)
      | (with_reducible exact LeO.none _)
      | (with_reducible refine LeO.ite ?_ ?_)
      | (with_reducible refine LeO.bind ?_ (fun _ => ?_))
      | exact ih0 _ _ _ _ _ _ _ _ _ _ _ _
      | exact ih1 _ _ _ _ _ _ _ _ _ _ _ _
      | exact ih2 _ _ _ _ _ _ _ _ _ _ _ _ _
      | exact ih3 _ _ _ _ _ _ _ _ _ _ _ _ _ _ _
      | exact ih4 _ _ _ _ _ _ _ _ _ _ _ _
      | exact ih5 _ _ _ _ _ _ _ _ _ _ _ _
      | exact LeO.none _
      | refine LeO.ite ?_ ?_
      | refine LeO.bind ?_ (fun _ => ?_)
    · intro y0 y1 y2 y3 y4 y5 y6 y7 y8 y9 y10 y11
      unfold quarrelref20_Put.l5
      repeat' first
      | (with_reducible exact ih0 _ _ _ _ _ _ _ _ _ _ _ _)
      | (with_reducible exact ih1 _ _ _ _ _ _ _ _ _ _ _ _)
      | (with_reducible exact ih2 _ _ _ _ _ _ _ _ _ _ _ _ _)
      | (with_reducible exact ih3 _ _ _ _ _ _ _ _ _ _ _ _ _ _ _)
      | (with_reducible exact ih4 _ _ _ _ _ _ _ _ _ _ _ _)
      | (with_reducible exact ih5 _ _ _ _ _ _ _ _ _ _ _ _)
      | (with_reducible exact LeO.refl _)
      | (with_reducible exact LeO.none _)
      | (with_reducible refine LeO.ite ?_ ?_)
      | (with_reducible refine LeO.bind ?_ (fun _ => ?_))
      | exact ih0 _ _ _ _ _ _ _ _ _ _ _ _
      | exact ih1 _ _ _ _ _ _ _ _ _ _ _ _
      | exact ih2 _ _ _ _ _ _ _ _ _ _ _ _ _
      | exact ih3 _ _ _ _ _ _ _ _ _ _ _ _ _ _ _
      | exact ih4 _ _ _ _ _ _ _ _ _ _ _ _
      | exact ih5 _ _ _ _ _ _ _ _ _ _ _ _
      | exact LeO.none _
      | refine LeO.ite ?_ ?_
      | refine LeO.bind ?_ (fun _ => ?_)
theorem quarrelref20_Put.mono : ∀ a0 a1 a2 a3 a4 a5 a6 a7 a8 a9 k, LeO (quarrelref20_Put.f k a0 a1 a2 a3 a4 a5 a6 a7 a8 a9) (quarrelref20_Put.f (k + 1) a0 a1 a2 a3 a4 a5 a6 a7 a8 a9) := by
  intro a0 a1 a2 a3 a4 a5 a6 a7 a8 a9 k
  obtain ⟨ih0, ih1, ih2, ih3, ih4, ih5⟩ := quarrelref20_Put.mono_l k
  unfold quarrelref20_Put.f
  repeat' first
      | (with_reducible exact ih0 _ _ _ _ _ _ _ _ _ _ _ _)
      | (with_reducible exact ih1 _ _ _ _ _ _ _ _ _ _ _ _)
      | (with_reducible exact ih2 _ _ _ _ _ _ _ _ _ _ _ _ _)
      | (with_reducible exact ih3 _ _ _ _ _ _ _ _ _ _ _ _ _ _ _)
      | (with_reducible exact ih4 _ _ _ _ _ _ _ _ _ _ _ _)
      | (with_reducible exact ih5 _ _ _ _ _ _ _ _ _ _ _ _)
      | (with_reducible exact LeO.refl _)
      | (with_reducible exact LeO.none _)
      | (with_reducible refine LeO.ite ?_ ?_)
      | (with_reducible refine LeO.bind ?_ (fun _ => ?_))
      | exact ih0 _ _ _ _ _ _ _ _ _ _ _ _
      | exact ih1 _ _ _ _ _ _ _ _ _ _ _ _
      | exact ih2 _ _ _ _ _ _ _ _ _ _ _ _ _
      | exact ih3 _ _ _ _ _ _ _ _ _ _ _ _ _ _ _
      | exact ih4 _ _ _ _ _ _ _ _ _ _ _ _
      | exact ih5 _ _ _ _ _ _ _ _ _ _ _ _
      | exact LeO.none _
      | refine LeO.ite ?_ ?_
      | refine LeO.bind ?_ (fun _ => ?_)
end Go.Proofs.Ythfkgnkojhocbaa.S
end
section
namespace Go.Proofs.Ythfkgnkojhocbaa.S
open Go Go.RowKit Go.Proofs.YthfkgnkojhocbaaW.PrintWords
set_option linter.unusedVariables false
set_option linter.unusedSimpArgs false
theorem langPut_l (os : List S80) (hl : os.length ≤ 20) : ∀ (d k i : Nat) (acc : List Int), i + d = os.length → d < k → acc.length + 3 * d ≤ 1000000 →
    lang_Put.l0 k acc os (os.length : Int) (i : Int) = some (acc ++ (os.drop i).flatMap opB) := by
  intro d
  induction d with
  | zero =>
    intro k i acc hi hk ha
    obtain ⟨k, rfl⟩ : ∃ m, k = m + 1 := ⟨k - 1, by omega⟩
    rw [lang_Put.l0, if_neg (show ¬ ((i : Int) < (os.length : Int)) by omega), List.drop_eq_nil_of_le (by omega)]
    simp
  | succ d ih =>
    intro k i acc hi hk ha
    obtain ⟨k, rfl⟩ : ∃ m, k = m + 1 := ⟨k - 1, by omega⟩
    have hi' : i < os.length := by omega
    rw [lang_Put.l0, if_pos (show (i : Int) < (os.length : Int) by omega), if_pos (show (0 : Int) ≤ (i : Int) by omega), if_pos (show (i : Int) < (os.length : Int) by omega), rd80_at os i hi', Option.bind_some]
    have e3 : acc.length + [os[i].f0 % 256, os[i].f1 % 256, os[i].f2 % 256].length < 140737488355328 := by simp only [List.length_cons, List.length_nil]; omega
    simp only [e3, ↓reduceIte]
    rw [wrap_succ (by omega), ih k (i + 1) _ (by omega) (by omega) (by simp only [List.length_append, List.length_cons, List.length_nil]; omega), List.drop_eq_getElem_cons hi', List.flatMap_cons, List.append_assoc]
    rfl
theorem langPut_f (os : List S80) (hl : os.length ≤ 20) (k : Nat) (hk : 30 < k) : lang_Put.f k os = some (os.flatMap opB) := by
  unfold lang_Put.f
  have h := langPut_l os hl os.length k 0 [] (by omega) (by omega) (by simp; omega)
  rw [show ((0 : Nat) : Int) = 0 from rfl] at h
  rw [h]
  simp
theorem opsLen (os : List S80) (h : os.length ≤ 20) : (os.flatMap opB).length ≤ 60 := by rw [opsB_len]; omega
section
variable (x0 x1 x2 x3 x4 x5 : Int) (f d : List Int) (al : List (List (List S80))) (p : List Int)
theorem put_l3 (hp : p.length ≤ 3000) : ∀ (e k i : Nat) (acc : List Int), i + e = p.length → e < k → acc.length + e ≤ 1000000 →
    script_Put.l3 k acc p (p.length : Int) (i : Int) = some (acc ++ (p.drop i).map (· % 256), 0) := by
  intro e
  induction e with
  | zero =>
    intro k i acc hi hk ha
    obtain ⟨k, rfl⟩ : ∃ m, k = m + 1 := ⟨k - 1, by omega⟩
    rw [script_Put.l3, if_neg (show ¬ ((i : Int) < (p.length : Int)) by omega), List.drop_eq_nil_of_le (by omega)]
    simp
  | succ e ih =>
    intro k i acc hi hk ha
    obtain ⟨k, rfl⟩ : ∃ m, k = m + 1 := ⟨k - 1, by omega⟩
    have hi' : i < p.length := by omega
    have hr : rd p (i : Int) = p[i] := by rw [rd_at]; simp [hi']
    have hb : acc.length < 140737488355328 := by omega
    rw [script_Put.l3, if_pos (show (i : Int) < (p.length : Int) by omega), if_pos (show (0 : Int) ≤ (i : Int) by omega), if_pos (show (i : Int) < (p.length : Int) by omega), hr]
    simp only [hb, ↓reduceIte]
    rw [wrap_succ (by omega), ih k (i + 1) _ (by omega) (by omega) (by simp only [List.length_append, List.length_cons, List.length_nil]; omega), List.drop_eq_getElem_cons hi', List.map_cons, List.append_assoc]
    rfl
theorem put_l2 (i : Nat) (t : List (List S80)) (hF : Few t) (B : Nat) (hB : 40 ≤ B) (R : List Int) (N : Nat)
    (H : ∀ k acc, B < k → acc.length ≤ N → script_Put.l1 k acc al (al.length : Int) ((i + 1 : Nat) : Int) x0 x1 x2 x3 x4 x5 f d al p = some (acc ++ R, 0)) (hi : i < 1000) (hN : N ≤ 900000) :
    ∀ (e k j : Nat) (acc : List Int), j + e = t.length → e + 1 + B < k → acc.length + 61 * e ≤ N →
    script_Put.l2 k acc al (al.length : Int) (i : Int) t (t.length : Int) (j : Int) x0 x1 x2 x3 x4 x5 f d al p = some (acc ++ ((t.drop j).flatMap encT ++ R), 0) := by
  have h20 := hF.1
  intro e
  induction e with
  | zero =>
    intro k j acc hj hk ha
    obtain ⟨k, rfl⟩ : ∃ m, k = m + 1 := ⟨k - 1, by omega⟩
    rw [script_Put.l2, if_neg (show ¬ ((j : Int) < (t.length : Int)) by omega), List.drop_eq_nil_of_le (by omega), wrap_succ (by omega), H k acc (by omega) (by omega)]
    simp
  | succ e ih =>
    intro k j acc hj hk ha
    obtain ⟨k, rfl⟩ : ∃ m, k = m + 1 := ⟨k - 1, by omega⟩
    have hj' : j < t.length := by omega
    have hO := hF.2 t[j] (List.getElem_mem hj')
    have hoL := opsLen t[j] hO
    have hb : acc.length < 140737488355328 := by omega
    have hb2 : (acc ++ [(t[j].length : Int) % 256]).length + (t[j].flatMap opB).length < 140737488355328 := by simp only [List.length_append, List.length_cons, List.length_nil]; omega
    rw [script_Put.l2, if_pos (show (j : Int) < (t.length : Int) by omega), if_pos (show (0 : Int) ≤ (j : Int) by omega), if_pos (show (j : Int) < (t.length : Int) by omega), rd6_at t j hj']
    simp only [hb, ↓reduceIte]
    rw [Option.bind_some, langPut_f t[j] hO k (by omega), Option.bind_some]
    simp only [hb2, ↓reduceIte]
    rw [wrap_succ (by omega), ih k (j + 1) _ (by omega) (by omega) (by simp only [List.length_append, List.length_cons, List.length_nil]; omega), List.drop_eq_getElem_cons hj', List.flatMap_cons]
    congr 2
    unfold encT
    simp
set_option maxRecDepth 100000 in
theorem put_l1 (hp : p.length ≤ 3000) (hd : d.length ≤ 3000) (ha : al.length ≤ 10) (hf : ∀ t ∈ al, Few t) : ∀ (e k i : Nat) (acc : List Int), i + e = al.length → 100 * e + 4000 < k → acc.length + 1300 * e ≤ 20000 →
    script_Put.l1 k acc al (al.length : Int) (i : Int) x0 x1 x2 x3 x4 x5 f d al p = some (acc ++ ((al.drop i).flatMap encA ++ ((d.length : Int) % 256 :: (d ++ p.map (· % 256)))), 0) := by
  intro e
  induction e with
  | zero =>
    intro k i acc hi hk hL
    obtain ⟨k, rfl⟩ : ∃ m, k = m + 1 := ⟨k - 1, by omega⟩
    have hb : acc.length < 140737488355328 := by omega
    have hb2 : (acc ++ [(d.length : Int) % 256]).length + d.length < 140737488355328 := by simp only [List.length_append, List.length_cons, List.length_nil]; omega
    rw [script_Put.l1, if_neg (show ¬ ((i : Int) < (al.length : Int)) by omega), List.drop_eq_nil_of_le (by omega)]
    simp only [hb, ↓reduceIte]
    rw [Option.bind_some]
    simp only [hb2, ↓reduceIte]
    have := put_l3 p hp p.length k 0 (acc ++ [(d.length : Int) % 256] ++ d) (by omega) (by omega) (by simp only [List.length_append, List.length_cons, List.length_nil]; omega)
    rw [show ((0 : Nat) : Int) = 0 from rfl] at this
    rw [this]
    simp
  | succ e ih =>
    intro k i acc hi hk hL
    obtain ⟨k, rfl⟩ : ∃ m, k = m + 1 := ⟨k - 1, by omega⟩
    have hi' : i < al.length := by omega
    have hF := hf al[i] (List.getElem_mem hi')
    have h20 := hF.1
    have hb : acc.length < 140737488355328 := by omega
    rw [script_Put.l1, if_pos (show (i : Int) < (al.length : Int) by omega), if_pos (show (0 : Int) ≤ (i : Int) by omega), if_pos (show (i : Int) < (al.length : Int) by omega), rd7_at al i hi']
    simp only [hb, ↓reduceIte]
    have := put_l2 x0 x1 x2 x3 x4 x5 f d al p i al[i] hF (100 * e + 4000) (by omega) ((al.drop (i + 1)).flatMap encA ++ ((d.length : Int) % 256 :: (d ++ p.map (· % 256)))) (20000 - 1300 * e)
      (fun k acc hk hN => ih k (i + 1) acc (by omega) hk (by omega)) (by omega) (by omega) al[i].length k 0 (acc ++ [(al[i].length : Int) % 256]) (by omega) (by omega) (by simp only [List.length_append, List.length_cons, List.length_nil]; omega)
    rw [show ((0 : Nat) : Int) = 0 from rfl, List.drop_zero] at this
    rw [this, List.drop_eq_getElem_cons hi', List.flatMap_cons]
    congr 2
    unfold encA
    simp
theorem put_l0 (hl : f.length ≤ 20) (hp : p.length ≤ 3000) (hd : d.length ≤ 3000) (ha : al.length ≤ 10) (hf : ∀ t ∈ al, Few t) : ∀ (e k i : Nat) (acc : List Int), i + e = f.length → e + 6000 < k → acc.length + e ≤ 1000 →
    script_Put.l0 k acc f (f.length : Int) (i : Int) x0 x1 x2 x3 x4 x5 f d al p = some (acc ++ ((f.drop i).map (· % 256) ++ (al.flatMap encA ++ ((d.length : Int) % 256 :: (d ++ p.map (· % 256))))), 0) := by
  intro e
  induction e with
  | zero =>
    intro k i acc hi hk hL
    obtain ⟨k, rfl⟩ : ∃ m, k = m + 1 := ⟨k - 1, by omega⟩
    have := put_l1 x0 x1 x2 x3 x4 x5 f d al p hp hd ha hf al.length k 0 acc (by omega) (by omega) (by omega)
    rw [show ((0 : Nat) : Int) = 0 from rfl, List.drop_zero] at this
    rw [script_Put.l0, if_neg (show ¬ ((i : Int) < (f.length : Int)) by omega), List.drop_eq_nil_of_le (by omega), this]
    simp
  | succ e ih =>
    intro k i acc hi hk hL
    obtain ⟨k, rfl⟩ : ∃ m, k = m + 1 := ⟨k - 1, by omega⟩
    have hi' : i < f.length := by omega
    have hr : rd f (i : Int) = f[i] := by rw [rd_at]; simp [hi']
    have hb : acc.length < 140737488355328 := by omega
    rw [script_Put.l0, if_pos (show (i : Int) < (f.length : Int) by omega), if_pos (show (0 : Int) ≤ (i : Int) by omega), if_pos (show (i : Int) < (f.length : Int) by omega), hr]
    simp only [hb, ↓reduceIte]
    rw [wrap_succ (by omega), ih k (i + 1) _ (by omega) (by omega) (by simp only [List.length_append, List.length_cons, List.length_nil]; omega), List.drop_eq_getElem_cons hi', List.map_cons]
    simp
end
/-- What few enough holds besides: scripts that were got. -/
structure Fit (f d : List Int) (al : List (List (List S80))) (p : List Int) : Prop where
  f : f.length ≤ 20
  d : d.length ≤ 3000
  a : al.length ≤ 10
  t : ∀ t ∈ al, Few t
  p : p.length ≤ 3000
/-- script.Put. -/
theorem put_f (c : S25) (f d : List Int) (al : List (List (List S80))) (p : List Int) (hs : Fit f d al p) (k : Nat) (hk : 2000000 < k) :
    script_Put.f k c.f0 c.f1 c.f2 c.f3 c.f4 c.f5 f d al p = some (if okS c f d al p = true then (putF c f d al p, 0) else ([], 1)) := by
  have hlf := hs.f
  unfold script_Put.f script_Ok.f
  rw [Option.bind_some]
  by_cases h : okS c f d al p = true
  · rw [if_pos h, if_pos h]
    have := put_l0 c.f0 c.f1 c.f2 c.f3 c.f4 c.f5 f d al p hs.f hs.p hs.d hs.a hs.t f.length k 0 (head7 c) (by omega) (by omega) (by simp [head7]; omega)
    rw [show ((0 : Nat) : Int) = 0 from rfl, List.drop_zero] at this
    exact this
  · rw [if_neg h, if_neg h]
section
variable (x0 x1 x2 x3 x4 x5 : Int) (f d : List Int) (al : List (List (List S80))) (p : List Int)
end
end Go.Proofs.Ythfkgnkojhocbaa.S
end
section
namespace Go.Proofs.Ythfkgnkojhocbaa.Opens
open Go.RowKit Go.Proofs.YthfkgnkojhocbaaW.PrintWords
/-- Whatever reads as a datum of the type t is a value of the kind d of which Q holds. -/
def Opens {α : Type} (P : Program) (t : TypeId) (d : Kd α) (Q : α → Prop) : Prop :=
  ∀ (H : Type) (enc : TypeId × Value → H) (w : World) (base : Nat) (spare : Nat → Bool) (held : Bool) (fuel : Nat) (cs : List Value) (x : DataW H × List MemPlace),
    DataW.trod enc P w base spare held fuel t cs = some x → ∃ a, d.K w a cs ∧ Q a
theorem Opens.imp {α : Type} {P : Program} {t : TypeId} {d : Kd α} {Q Q' : α → Prop} (h : Opens P t d Q) (hq : ∀ a, Q a → Q' a) : Opens P t d Q' := by
  intro H enc w base spare held fuel cs x hx
  obtain ⟨a, hk, ha⟩ := h H enc w base spare held fuel cs x hx
  exact ⟨a, hk, hq a ha⟩
theorem Opens.int {P : Program} {t : TypeId} {k : IntKind} (ht : P.underlying t = some (.int k)) : Opens P t (Kd.int k) (fun a => (Lit.int k a).wf = true) := by
  intro H enc w base spare held fuel cs x hx
  obtain ⟨n, rfl, _, hw⟩ := DataW.trod_int ht hx
  exact ⟨n, rfl, hw⟩
theorem Opens.bool {P : Program} {t : TypeId} (ht : P.underlying t = some .bool) : Opens P t Kd.bool (fun _ => True) := by
  intro H enc w base spare held fuel cs x hx
  obtain ⟨n, rfl, _⟩ := DataW.trod_bool ht hx
  exact ⟨n, rfl, trivial⟩
theorem Opens.iso {α β : Type} {P : Program} {t : TypeId} {d : Kd α} {Q : α → Prop} (h : Opens P t d Q) (f : β → α) (g : α → β) (hfg : ∀ a, f (g a) = a) : Opens P t (Kd.iso d f) (fun b => Q (f b)) := by
  intro H enc w base spare held fuel cs x hx
  obtain ⟨a, hk, hq⟩ := h H enc w base spare held fuel cs x hx
  exact ⟨g a, by show d.K w (f (g a)) cs; rw [hfg]; exact hk, by show Q (f (g a)); rw [hfg]; exact hq⟩
theorem list_of {α : Type} {p : Nat → α → Prop} : ∀ n : Nat, (∀ i, i < n → ∃ a, p i a) → ∃ l : List α, l.length = n ∧ ∀ i (hi : i < l.length), p i l[i]
  | 0, _ => ⟨[], rfl, fun i hi => absurd hi (Nat.not_lt_zero i)⟩
  | n + 1, h => by
    obtain ⟨l, hl, hp⟩ := list_of n (fun i hi => h i (by omega))
    obtain ⟨a, ha⟩ := h n (by omega)
    refine ⟨l ++ [a], by simp [hl], fun i hi => ?_⟩
    rcases Nat.lt_or_ge i l.length with hlt | hge
    · rw [List.getElem_append_left hlt]; exact hp i hlt
    · have : i = n := by simp at hi; omega
      subst this
      rw [List.getElem_append_right (by omega)]
      simpa [hl] using ha
theorem add_add' (a : Addr) (i j : Nat) : (a.add i).add j = a.add (i + j) := by
  unfold Addr.add
  by_cases hi : i = 0 <;> by_cases hj : j = 0 <;> simp [hi, hj, Nat.add_assoc]
theorem Opens.slice {α : Type} {P : Program} {t e : TypeId} {d : Kd α} {Q : α → Prop} (ht : P.underlying t = some (.slice e)) (hs : P.cellsOf e = d.sz) (hd : Opens P e d Q) :
    Opens P t (Kd.slice e d) (fun l => ∀ a ∈ l, Q a) := by
  intro H enc w base spare held fuel cs x hx
  rcases Go.Deep.open_slice ht hx with ⟨rfl, _⟩ | ⟨a, len, cap, m, n, D, Pl, rfl, _, hl, hm, hmm, _, hi⟩
  · exact ⟨[], ⟨none, 0, rfl, by simp, rfl, by simp, fun h => absurd h (Nat.lt_irrefl 0)⟩, by simp⟩
  · have hlm : len ≤ m := by rw [hmm]; split <;> omega
    obtain ⟨l, hll, hp⟩ := list_of (p := fun i (v : α) => Q v ∧ ∃ c, c.length = d.sz ∧ d.K w v c ∧ ∀ j u, c[j]? = some u → w.cell? (a.add (i * d.sz + j)) = some u) len (fun i hil => by
      obtain ⟨cs', hc, ht'⟩ := hi i (by omega)
      rw [hs] at hc
      obtain ⟨_, hcl, hat⟩ := World.cells?_some hc
      obtain ⟨v, hk, hq⟩ := hd H enc w base spare held n cs' _ ht'
      refine ⟨v, hq, cs', hcl, hk, fun j u hu => ?_⟩
      have hjl : j < d.sz := by rw [← hcl]; exact (List.getElem?_eq_some_iff.1 hu).1
      rw [← add_add', hat j hjl, hu])
    refine ⟨l, ⟨some a, cap, by rw [hll], by omega, rfl, ?_, fun _ => ⟨a, rfl, fun j p hj => ?_⟩⟩, fun v hv => ?_⟩
    · simp only [maxLen] at hm; omega
    · obtain ⟨hjl, rfl⟩ := List.getElem?_eq_some_iff.1 hj
      exact (hp j hjl).2
    · obtain ⟨i, hil, rfl⟩ := List.getElem_of_mem hv
      exact (hp i hil).1
/-- The fields of a struct from place j on: their cells begin at off. -/
def OpensAt {α : Type} (P : Program) (fs : Array Field) (tot _j off : Nat) (d : Kd α) (Q : α → Prop) : Prop :=
  ∀ (H : Type) (enc : TypeId × Value → H) (w : World) (base : Nat) (spare : Nat → Bool) (held : Bool) (n : Nat) (cs : List Value) (xs : List (DataW H × List MemPlace)), cs.length = tot → xs.length = fs.size →
    (∀ (i : Nat) (f : Field), fs[i]? = some f → DataW.trod enc P w base spare held n f.type ((cs.drop f.offset).take (P.cellsOf f.type)) = xs[i]?) → ∃ a, d.K w a (cs.drop off) ∧ Q a
theorem OpensAt.last {α : Type} {P : Program} {fs : Array Field} {tot j off : Nat} {d : Kd α} {Q : α → Prop} (f : Field) (hf : fs[j]? = some f) (ho : f.offset = off) (hc : off + P.cellsOf f.type = tot)
    (h : Opens P f.type d Q) : OpensAt P fs tot j off d Q := by
  intro H enc w base spare held n cs xs hl hx hg
  have hj : j < xs.length := by rw [hx]; exact (Array.getElem?_eq_some_iff.1 hf).1
  obtain ⟨a, hk, hq⟩ := h H enc w base spare held n _ _ ((hg j f hf).trans (List.getElem?_eq_getElem hj))
  rw [ho, List.take_of_length_le (by rw [List.length_drop]; omega)] at hk
  exact ⟨a, hk, hq⟩
theorem OpensAt.cons {α β : Type} {P : Program} {fs : Array Field} {tot j off off' : Nat} {d : Kd α} {d' : Kd β} {Q : α → Prop} {Q' : β → Prop} (f : Field) (hf : fs[j]? = some f) (ho : f.offset = off) (hc : off + P.cellsOf f.type = off')
    (h : Opens P f.type d Q) (h' : OpensAt P fs tot (j + 1) off' d' Q') : OpensAt P fs tot j off (Kd.pair d d') (fun p => Q p.1 ∧ Q' p.2) := by
  intro H enc w base spare held n cs xs hl hx hg
  have hj : j < xs.length := by rw [hx]; exact (Array.getElem?_eq_some_iff.1 hf).1
  obtain ⟨a, hk, hq⟩ := h H enc w base spare held n _ _ ((hg j f hf).trans (List.getElem?_eq_getElem hj))
  obtain ⟨b, hk', hq'⟩ := h' H enc w base spare held n cs xs hl hx hg
  rw [ho] at hk
  refine ⟨(a, b), ⟨_, _, ?_, hk, hk'⟩, hq, hq'⟩
  rw [← hc, ← List.drop_drop, List.take_append_drop]
theorem Opens.struct {α : Type} {P : Program} {t : TypeId} {fs : Array Field} {tot : Nat} {d : Kd α} {Q : α → Prop} (ht : P.underlying t = some (.struct fs)) (hc : P.cellsOf t = tot) (h : OpensAt P fs tot 0 0 d Q) : Opens P t d Q := by
  intro H enc w base spare held fuel cs x hx
  obtain ⟨xs, n, _, _, hl, hxl, hg⟩ := DataW.trod_struct ht hx
  obtain ⟨a, hk, hq⟩ := h H enc w base spare held n cs xs (hl.trans hc) hxl hg
  exact ⟨a, by simpa using hk, hq⟩
/-- An argument, as a row has it. -/
theorem Opens.arg {α : Type} {P : Program} {t : TypeId} {d : Kd α} {Q : α → Prop} (h : Opens P t d Q) {H : Type} {enc : TypeId × Value → H} {w : World} {base : Nat} {spare : Nat → Bool} {held : Bool} {v : Value} {x : DataW H} {p : List MemPlace}
    (hx : DataW.Trod enc P w base spare held t v x p) : ∃ a, d.K w a v.cells.toList ∧ Q a := by
  obtain ⟨fuel, hf⟩ := hx
  exact h H enc w base spare held fuel _ _ hf
end Go.Proofs.Ythfkgnkojhocbaa.Opens
end
section
namespace Go.Proofs.Ythfkgnkojhocbaa.S
open Go.RowKit Go.Proofs.YthfkgnkojhocbaaW.PrintWords Go.Proofs.Ythfkgnkojhocbaa.Opens
def WF25 (x : S25) : Prop := (Lit.int .i64 x.f0).wf = true ∧ (Lit.int .i64 x.f1).wf = true ∧ (Lit.int .i64 x.f2).wf = true ∧ (Lit.int .i64 x.f3).wf = true ∧ (Lit.int .i64 x.f4).wf = true ∧ (Lit.int .i64 x.f5).wf = true
theorem open25 : Opens Try.prog 25 k25 WF25 := (Opens.iso (Opens.struct (tot := 6) Try.underlying25 (by kernel_rfl) (OpensAt.cons (off' := 1) _ rfl rfl (by kernel_rfl) (Opens.int (k := .i64) Try.underlying3) (OpensAt.cons (off' := 2) _ rfl rfl (by kernel_rfl) (Opens.int (k := .i64) Try.underlying3) (OpensAt.cons (off' := 3) _ rfl rfl (by kernel_rfl) (Opens.int (k := .i64) Try.underlying3) (OpensAt.cons (off' := 4) _ rfl rfl (by kernel_rfl) (Opens.int (k := .i64) Try.underlying3) (OpensAt.cons (off' := 5) _ rfl rfl (by kernel_rfl) (Opens.int (k := .i64) Try.underlying3) (OpensAt.last _ rfl rfl (by kernel_rfl) (Opens.int (k := .i64) Try.underlying3)))))))) (fun x : S25 => (x.f0, x.f1, x.f2, x.f3, x.f4, x.f5)) (fun p => ⟨p.1, p.2.1, p.2.2.1, p.2.2.2.1, p.2.2.2.2.1, p.2.2.2.2.2⟩) (fun _ => rfl)).imp (fun _ h => h)
def WF80 (x : S80) : Prop := (Lit.int .i64 x.f0).wf = true ∧ (Lit.int .i64 x.f1).wf = true ∧ (Lit.int .i64 x.f2).wf = true
theorem open80 : Opens Try.prog 80 k80 WF80 := (Opens.iso (Opens.struct (tot := 3) Try.underlying80 (by kernel_rfl) (OpensAt.cons (off' := 1) _ rfl rfl (by kernel_rfl) (Opens.int (k := .i64) Try.underlying3) (OpensAt.cons (off' := 2) _ rfl rfl (by kernel_rfl) (Opens.int (k := .i64) Try.underlying3) (OpensAt.last _ rfl rfl (by kernel_rfl) (Opens.int (k := .i64) Try.underlying2))))) (fun x : S80 => (x.f0, x.f1, x.f2)) (fun p => ⟨p.1, p.2.1, p.2.2⟩) (fun _ => rfl)).imp (fun _ h => h)
def WF34 (x : S34) : Prop := WF25 x.f0 ∧ (∀ a0 ∈ x.f1, (Lit.int .i64 a0).wf = true) ∧ (∀ a0 ∈ x.f2, (Lit.int .u8 a0).wf = true) ∧ (∀ a0 ∈ x.f3, (∀ a1 ∈ a0, (∀ a2 ∈ a1, WF80 a2))) ∧ (∀ a0 ∈ x.f4, (Lit.int .i64 a0).wf = true)
theorem open34 : Opens Try.prog 34 k34 WF34 := (Opens.iso (Opens.struct (tot := 10) Try.underlying34 (by kernel_rfl) (OpensAt.cons (off' := 6) _ rfl rfl (by kernel_rfl) open25 (OpensAt.cons (off' := 7) _ rfl rfl (by kernel_rfl) (Opens.slice Try.underlying26 (by kernel_rfl) (Opens.int (k := .i64) Try.underlying2)) (OpensAt.cons (off' := 8) _ rfl rfl (by kernel_rfl) (Opens.slice Try.underlying22 (by kernel_rfl) (Opens.int (k := .u8) Try.underlying5)) (OpensAt.cons (off' := 9) _ rfl rfl (by kernel_rfl) (Opens.slice Try.underlying27 (by kernel_rfl) (Opens.slice Try.underlying60 (by kernel_rfl) (Opens.slice Try.underlying61 (by kernel_rfl) open80))) (OpensAt.last _ rfl rfl (by kernel_rfl) (Opens.slice Try.underlying28 (by kernel_rfl) (Opens.int (k := .i64) Try.underlying3)))))))) (fun x : S34 => (x.f0, x.f1, x.f2, x.f3, x.f4)) (fun p => ⟨p.1, p.2.1, p.2.2.1, p.2.2.2.1, p.2.2.2.2⟩) (fun _ => rfl)).imp (fun _ h => h)
end Go.Proofs.Ythfkgnkojhocbaa.S
end
section
namespace Go.Proofs.Ythfkgnkojhocbaa.S
def quarrellaw20_ScriptPicks.Pure : Prop := ∀ (x0 : S34) (l1 : List Int) (l2 : List Int), WF34 x0 → l1.length ≤ 9223372036854775807 → (∀ a0 ∈ l1, (Lit.int .u8 a0).wf = true) → l2.length ≤ 9223372036854775807 → (∀ a0 ∈ l2, (Lit.int .u8 a0).wf = true) → ∃ k, quarrellaw20_ScriptPicks.f k x0.f0.f0 x0.f0.f1 x0.f0.f2 x0.f0.f3 x0.f0.f4 x0.f0.f5 x0.f1 x0.f2 x0.f3 x0.f4 l1 l2 = some true
end Go.Proofs.Ythfkgnkojhocbaa.S
end
section
namespace Go.Proofs.Ythfkgnkojhocbaa.Pure
open Go.RowKit Go.Proofs.Ythfkgnkojhocbaa.S Go.Proofs.YthfkgnkojhocbaaW.PrintWords Go.Proofs.YthfkgnkojhocbaaW.PrintLast
set_option linter.unusedVariables false
theorem ScriptPicks : quarrellaw20_ScriptPicks.Pure := by
  intro x l1 l2 hwf hl1 hw1 hl2 hw2
  have hd : isB x.f2 := u8_isB hwf.2.2.1
  have hb1 := u8_isB hw1
  have hb2 := u8_isB hw2
  obtain ⟨c, f, d, a, p⟩ := x
  obtain ⟨k, hk⟩ : ∃ k : Nat, k = 3000000 := ⟨_, rfl⟩
  obtain ⟨k', e⟩ : ∃ m, k = m + 1 := ⟨k - 1, by omega⟩
  obtain ⟨k2, e2⟩ : ∃ m, k' = m + 1 := ⟨k' - 1, by omega⟩
  refine ⟨k, ?_⟩
  simp only at hd ⊢
  unfold quarrellaw20_ScriptPicks.f
  rw [alive_f k (by omega), Option.bind_some, if_pos rfl]
  obtain ⟨b, hb, hs⟩ := great_f c.f0 c.f1 c.f2 c.f3 c.f4 c.f5 f d a p k (by omega)
  have ht : quarrellaw20_ScriptPicks.j0 k l1 l2 true c.f0 c.f1 c.f2 c.f3 c.f4 c.f5 f d a p = some true := by rw [e, quarrellaw20_ScriptPicks.j0, if_pos rfl]
  rw [hb, Option.bind_some]
  cases b with
  | true => rw [if_pos rfl, ht]
  | false =>
    have hs := hs rfl
    rw [if_neg (by simp)]
    by_cases h : (l1.length : Int) > 300
    · rw [if_pos h, ht]
    rw [if_neg h]
    by_cases h' : (l2.length : Int) > 300
    · rw [decide_eq_true h', ht]
    rw [decide_eq_false h', e, quarrellaw20_ScriptPicks.j0, if_neg (by simp)]
    unfold quarrellaw20_Of.f
    rw [Option.bind_some]
    simp only
    have hsf : Fit f d a [] := ⟨hs.f, by have := hs.d; omega, hs.a, hs.t, by simp⟩
    rw [put_f c f d a [] hsf k' (by omega), Option.bind_some]
    by_cases ho : okS c f d a [] = true
    · have hO := (okS_iff c f d a []).1 ho
      obtain ⟨h8, hlen⟩ := put_len c f d a [] hs.f hsf.d hs.a hs.t (by simp)
      have hB := isB_put c f hd a []
      obtain ⟨at1, hg1⟩ := get_put_more hO hd l1
      obtain ⟨at2, hg2⟩ := get_put_more hO hd l2
      rw [if_pos ho, if_pos rfl]
      generalize hP : putF c f d a [] = P at h8 hlen hB hg1 hg2
      rw [List.nil_append] at hg1 hg2
      have hlim : ([] : List Int).length + P.length < 140737488355328 := by simp; omega
      have hlim1 : P.length + l1.length < 140737488355328 := by omega
      have hlim2 : P.length + l2.length < 140737488355328 := by omega
      rw [Option.bind_some]
      simp only [hlim, ↓reduceIte]
      rw [Option.bind_some, List.nil_append]
      simp only [hlim1, ↓reduceIte]
      rw [getS_t _ (isB_app hB hb1) (by simp; omega) k' _ _ _ hg1, Option.bind_some, Option.bind_some]
      simp only [hlim, ↓reduceIte]
      rw [Option.bind_some, List.nil_append]
      simp only [hlim2, ↓reduceIte]
      rw [getS_t _ (isB_app hB hb2) (by simp; omega) k' _ _ _ hg2, Option.bind_some]
      simp only [↓reduceIte]
      rw [e2, quarrellaw20_ScriptPicks.j1, if_neg (by simp),
        same_f _ _ _ _ _ _ _ _ _ _ hs.a hs.t (by have := hs.f; omega) (by simp) k2 (by omega), Option.bind_some, if_pos rfl, Option.bind_some]
    · rw [if_neg ho, if_neg (by simp)]
end Go.Proofs.Ythfkgnkojhocbaa.Pure
end
section
namespace Go.Proofs.Ythfkgnkojhocbaa.scriptPicks
open Go.ChangeShapes Go.WideShapes Go.ChangeAt Go.RowKit Go.Proofs.Ythfkgnkojhocbaa.Opens Go.Proofs.Ythfkgnkojhocbaa.S Go.Proofs.YthfkgnkojhocbaaW.PrintWords
set_option linter.unusedVariables false
theorem own : ownKnob Try.prog.godebug = none := by kernel_rfl
theorem laidOut : laidOutB Try.prog = true := by kernel_rfl
set_option maxRecDepth 100000 in
theorem lifted (os : Os) (started : os.Started) (H : Type) (enc : TypeId × Value → H) :
    ReturnsInHanded {} Try.checked os 7 .any (Rows.scriptPicksSpec.pre6 enc Try.prog Try.f7 Rows.scriptPicksRow.domain false) (Rows.scriptPicksSpec.post enc Try.prog Try.f7 false true false false) := by
  refine returnsInHanded_of_change_sized (C := Try.checked) own started (by kernel_rfl) Try.func7
    (ChangeSpec.witness6 (enc := enc) (C := Try.checked) false ⟨#[], #[.agg #[.int .i64 0, .int .i64 0, .int .i64 0, .int .i64 0, .int .i64 0, .int .i64 0, .slice none 0 0, .slice none 0 0, .slice none 0 0, .slice none 0 0], .slice none 0 0, .slice none 0 0], []⟩ 8 (by kernel_rfl) (by kernel_rfl) (by kernel_rfl) (by kernel_rfl)) ?_
  intro W base args ds gs before hval0 hW hcnd hsz0 _
  have hval : ∀ (j : Nat) t v, Try.f7.params[j]? = some t → args[j]? = some v → Value.okWide Try.prog W .any base t v := hval0
  have hW' := hW
  obtain ⟨p, q, hA0, hV, rfl, hfz, hnd⟩ := hW
  have hA : DataW.TrodAll enc Try.prog W 0 (fun _ => true) true Try.f7.params.toList args.toList ds p := hA0
  rw [Try.params7] at hA hval
  obtain ⟨v0, vs0, d0, ds0, p0, q0, hargs, rfl, rfl, h0, r0⟩ := trodAll_cons hA
  obtain ⟨v1, vs1, d1, ds1, p1, q1, rfl, rfl, rfl, h1, r1⟩ := trodAll_cons r0
  obtain ⟨v2, vs2, d2, ds2, p2, q2, rfl, rfl, rfl, h2, r2⟩ := trodAll_cons r1
  obtain ⟨rfl, rfl, rfl⟩ := trodAll_nil r2
  obtain rfl : args = #[v0, v1, v2] := by cases args; simp_all
  obtain ⟨rfl, rfl⟩ := trodVars_none hV
  obtain ⟨cs0, rfl, hcs0⟩ := okWide_struct Try.underlying34 (hval 0 34 v0 rfl rfl)
  have k0 := h0
  have lt0 : ∀ x ∈ p0, x.block < W.heap.size := by obtain ⟨m, hm⟩ := k0; exact DataW.trod_lt m _ _ _ hm
  obtain ⟨x0, hk0, hq0⟩ := Opens.arg open34 h0
  simp only [Value.cells] at hk0
  obtain ⟨A0_6, c0_6, A0_7, c0_7, A0_8, c0_8, A0_9, c0_9, e0, hY0_6, hZ0_6, hY0_7, hZ0_7, hY0_8, hZ0_8, hY0_9, hZ0_9⟩ := k34_open hk0
  obtain ⟨cs0⟩ := cs0
  simp only at e0
  subst e0
  obtain ⟨a1, len1, cap1, rfl⟩ := okWide_slice Try.underlying22 (hval 1 22 v1 rfl rfl)
  have k1 := h1
  have lt1 : ∀ x ∈ p1, x.block < W.heap.size := by obtain ⟨m, hm⟩ := k1; exact DataW.trod_lt m _ _ _ hm
  obtain ⟨l1, ⟨A1, c1, e1, hc1, hr1⟩, hq1⟩ := Opens.arg (Opens.slice Try.underlying22 (by kernel_rfl) (Opens.int (k := .u8) Try.underlying5)) h1
  simp [Value.cells] at e1
  obtain ⟨rfl, rfl, rfl⟩ := e1
  obtain ⟨a2, len2, cap2, rfl⟩ := okWide_slice Try.underlying22 (hval 2 22 v2 rfl rfl)
  have k2 := h2
  have lt2 : ∀ x ∈ p2, x.block < W.heap.size := by obtain ⟨m, hm⟩ := k2; exact DataW.trod_lt m _ _ _ hm
  obtain ⟨l2, ⟨A2, c2, e2, hc2, hr2⟩, hq2⟩ := Opens.arg (Opens.slice Try.underlying22 (by kernel_rfl) (Opens.int (k := .u8) Try.underlying5)) h2
  simp [Value.cells] at e2
  obtain ⟨rfl, rfl, rfl⟩ := e2
  clear hA0 hval0 hsz0
  obtain ⟨k, hP⟩ := Pure.ScriptPicks x0 l1 l2 hq0 (Kd.C_max hr1) hq1 (Kd.C_max hr2) hq2
  refine (quarrellaw20_ScriptPicks.calls k x0.f0.f0 x0.f0.f1 x0.f0.f2 x0.f0.f3 x0.f0.f4 x0.f0.f5 _ _ x0.f1 _ _ x0.f2 _ _ x0.f3 _ _ x0.f4 _ _ l1 _ _ l2 true W hZ0_6 hY0_6 hZ0_7 hY0_7 hZ0_8 hY0_8 hZ0_9 hY0_9 hr1 hc1 hr2 hc2 hP).mono fun e W' ⟨he, bel0⟩ => ?_
  have bel : Below W.heap.size W W' := by first | exact bel0 | exact bel0.below
  subst he
  exact ⟨_, rfl, _, _, _, [], _, [], hW', trodAll_mk1 (shut_bool Try.underlying4 _), (trodAll_cons_mk (Below.trod laidOut (by kernel_rfl) (of_decide_eq_true (by kernel_rfl)) k0 bel lt0) (trodAll_cons_mk (Below.trod laidOut (by kernel_rfl) (of_decide_eq_true (by kernel_rfl)) k1 bel lt1) (trodAll_cons_mk (Below.trod laidOut (by kernel_rfl) (of_decide_eq_true (by kernel_rfl)) k2 bel lt2) trodAll_mk0))), rfl, bel.frame _, fun h => by cases h⟩
theorem over : Rows.scriptPicksRow.holds Try.pinned (OpenSpec.ofChange Rows.scriptPicksSpec) :=
  OpenClaim.holds_of_wide 7 Try.f7 rfl rfl rfl rfl rfl rfl rfl ⟨rfl, rfl, rfl, rfl, rfl⟩ rfl rfl rfl rfl rfl (by kernel_rfl) Try.func7 (by kernel_rfl)
    (of_decide_eq_true (by kernel_rfl)) (by unfold Func.isWrapper; first | (rw [if_pos (by decide +kernel)]; kernel_rfl) | (rw [if_neg (by decide +kernel)]; exact ⟨rfl, rfl⟩))
    (fun os started H enc _ => lifted os started H enc)
theorem proved : Rows.ScriptPicksSaid := over
#print axioms proved
end Go.Proofs.Ythfkgnkojhocbaa.scriptPicks
namespace Go.Proofs.Ythfkgnkojhocbaa
/-- The row, under a short name, for the claim. -/
theorem scriptPicks_holds : Rows.ScriptPicksSaid := scriptPicks.proved
end Go.Proofs.Ythfkgnkojhocbaa
end
