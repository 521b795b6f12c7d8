/- Part 3 of the proof of scriptPicks_holds. Conditions stand in each theorem; nothing is assumed. Gathered by a program of this session out of its texts and the kit's words. -/
import Derived.Test.YthfkgnkojhocbaaZP2
section
namespace Go.Proofs.Ythfkgnkojhocbaa.S
open Go.RowKit Go.Proofs.YthfkgnkojhocbaaW.PrintWords Go.Proofs.YthfkgnkojhocbaaW.PrintLast Go.Proofs.YthfkgnkojhocbaaW.PrintMore
attribute [local go_sem] max2_int min2_int max_two min_two max_three min_three max_four min_four
set_option linter.unusedVariables false
set_option linter.unusedSimpArgs false
attribute [local go_sem high] eqA25
mutual
def quarrellaw20_same.j0 : Nat → Bool → Int → Int → Int → Int → Int → Int → List Int → List Int → List (List (List (S80))) → List Int → Int → Int → Int → Int → Int → Int → List Int → List Int → List (List (List (S80))) → List Int → Option (Bool)
  | 0, _, _, _, _, _, _, _, _, _, _, _, _, _, _, _, _, _, _, _, _, _ => none
  | k + 1, x45, x174000, x174001, x174002, x174003, x174004, x174005, x174006, x174007, x174008, x174009, x175000, x175001, x175002, x175003, x175004, x175005, x175006, x175007, x175008, x175009 => if x45 = true then (some false) else (quarrellaw20_same.l0 k 0 x174000 x174001 x174002 x174003 x174004 x174005 x174006 x174007 x174008 x174009 x175000 x175001 x175002 x175003 x175004 x175005 x175006 x175007 x175008 x175009)
def quarrellaw20_same.l0 : Nat → Int → Int → Int → Int → Int → Int → Int → List Int → List Int → List (List (List (S80))) → List Int → Int → Int → Int → Int → Int → Int → List Int → List Int → List (List (List (S80))) → List Int → Option (Bool)
  | 0, _, _, _, _, _, _, _, _, _, _, _, _, _, _, _, _, _, _, _, _, _ => none
  | k + 1, x5, x174000, x174001, x174002, x174003, x174004, x174005, x174006, x174007, x174008, x174009, x175000, x175001, x175002, x175003, x175004, x175005, x175006, x175007, x175008, x175009 => if x5 < (x174008.length : Int) then (if 0 ≤ x5 then (if x5 < (x175008.length : Int) then (if ((rd_L7 x174008 x5).length : Int) = ((rd_L7 x175008 x5).length : Int) then (quarrellaw20_same.l1 k x5 0 x174000 x174001 x174002 x174003 x174004 x174005 x174006 x174007 x174008 x174009 x175000 x175001 x175002 x175003 x175004 x175005 x175006 x175007 x175008 x175009) else (some false)) else (none)) else (none)) else (some true)
def quarrellaw20_same.l1 : Nat → Int → Int → Int → Int → Int → Int → Int → Int → List Int → List Int → List (List (List (S80))) → List Int → Int → Int → Int → Int → Int → Int → List Int → List Int → List (List (List (S80))) → List Int → Option (Bool)
  | 0, _, _, _, _, _, _, _, _, _, _, _, _, _, _, _, _, _, _, _, _, _, _ => none
  | k + 1, x5, x6, x174000, x174001, x174002, x174003, x174004, x174005, x174006, x174007, x174008, x174009, x175000, x175001, x175002, x175003, x175004, x175005, x175006, x175007, x175008, x175009 => if 0 ≤ x5 then (if x5 < (x174008.length : Int) then (if x6 < ((rd_L7 x174008 x5).length : Int) then (if 0 ≤ x6 then (if x5 < (x175008.length : Int) then (if x6 < ((rd_L7 x175008 x5).length : Int) then ((quarrelref11_Same.f k (rd_L6 (rd_L7 x174008 x5) x6) (rd_L6 (rd_L7 x175008 x5) x6)).bind fun t184 => (if t184 = true then (quarrellaw20_same.l1 k x5 (wrap64 (x6 + 1)) x174000 x174001 x174002 x174003 x174004 x174005 x174006 x174007 x174008 x174009 x175000 x175001 x175002 x175003 x175004 x175005 x175006 x175007 x175008 x175009) else (some false))) else (none)) else (none)) else (none)) else (quarrellaw20_same.l0 k (wrap64 (x5 + 1)) x174000 x174001 x174002 x174003 x174004 x174005 x174006 x174007 x174008 x174009 x175000 x175001 x175002 x175003 x175004 x175005 x175006 x175007 x175008 x175009)) else (none)) else (none)
end
def quarrellaw20_same.f (k : Nat) (a0_0 : Int) (a0_1 : Int) (a0_2 : Int) (a0_3 : Int) (a0_4 : Int) (a0_5 : Int) (l0_6 : List Int) (l0_7 : List Int) (l0_8 : List (List (List (S80)))) (l0_9 : List Int) (a1_0 : Int) (a1_1 : Int) (a1_2 : Int) (a1_3 : Int) (a1_4 : Int) (a1_5 : Int) (l1_6 : List Int) (l1_7 : List Int) (l1_8 : List (List (List (S80)))) (l1_9 : List Int) : Option (Bool) := if (!(a0_0 == a1_0) || (!(a0_1 == a1_1) || (!(a0_2 == a1_2) || (!(a0_3 == a1_3) || (!(a0_4 == a1_4) || (!(a0_5 == a1_5))))))) = true then (quarrellaw20_same.j0 k true a0_0 a0_1 a0_2 a0_3 a0_4 a0_5 l0_6 l0_7 l0_8 l0_9 a1_0 a1_1 a1_2 a1_3 a1_4 a1_5 l1_6 l1_7 l1_8 l1_9) else ((quarrelref01_Vals.f k l0_6 l1_6).bind fun t175 => (if t175 = true then (if (strOfNums l0_7).toList = (strOfNums l1_7).toList then ((quarrelref01_Ints.f k l0_9 l1_9).bind fun t176 => (if t176 = true then (quarrellaw20_same.j0 k ((l0_8.length : Int) != (l1_8.length : Int)) a0_0 a0_1 a0_2 a0_3 a0_4 a0_5 l0_6 l0_7 l0_8 l0_9 a1_0 a1_1 a1_2 a1_3 a1_4 a1_5 l1_6 l1_7 l1_8 l1_9) else (quarrellaw20_same.j0 k true a0_0 a0_1 a0_2 a0_3 a0_4 a0_5 l0_6 l0_7 l0_8 l0_9 a1_0 a1_1 a1_2 a1_3 a1_4 a1_5 l1_6 l1_7 l1_8 l1_9))) else (quarrellaw20_same.j0 k true a0_0 a0_1 a0_2 a0_3 a0_4 a0_5 l0_6 l0_7 l0_8 l0_9 a1_0 a1_1 a1_2 a1_3 a1_4 a1_5 l1_6 l1_7 l1_8 l1_9)) else (quarrellaw20_same.j0 k true a0_0 a0_1 a0_2 a0_3 a0_4 a0_5 l0_6 l0_7 l0_8 l0_9 a1_0 a1_1 a1_2 a1_3 a1_4 a1_5 l1_6 l1_7 l1_8 l1_9)))
theorem quarrellaw20_same.mono_l : ∀ k, (∀ y0 y1 y2 y3 y4 y5 y6 y7 y8 y9 y10 y11 y12 y13 y14 y15 y16 y17 y18 y19 y20, LeO (quarrellaw20_same.j0 k y0 y1 y2 y3 y4 y5 y6 y7 y8 y9 y10 y11 y12 y13 y14 y15 y16 y17 y18 y19 y20) (quarrellaw20_same.j0 (k + 1) y0 y1 y2 y3 y4 y5 y6 y7 y8 y9 y10 y11 y12 y13 y14 y15 y16 y17 y18 y19 y20)) ∧ (∀ y0 y1 y2 y3 y4 y5 y6 y7 y8 y9 y10 y11 y12 y13 y14 y15 y16 y17 y18 y19 y20, LeO (quarrellaw20_same.l0 k y0 y1 y2 y3 y4 y5 y6 y7 y8 y9 y10 y11 y12 y13 y14 y15 y16 y17 y18 y19 y20) (quarrellaw20_same.l0 (k + 1) y0 y1 y2 y3 y4 y5 y6 y7 y8 y9 y10 y11 y12 y13 y14 y15 y16 y17 y18 y19 y20)) ∧ (∀ y0 y1 y2 y3 y4 y5 y6 y7 y8 y9 y10 y11 y12 y13 y14 y15 y16 y17 y18 y19 y20 y21, LeO (quarrellaw20_same.l1 k y0 y1 y2 y3 y4 y5 y6 y7 y8 y9 y10 y11 y12 y13 y14 y15 y16 y17 y18 y19 y20 y21) (quarrellaw20_same.l1 (k + 1) y0 y1 y2 y3 y4 y5 y6 y7 y8 y9 y10 y11 y12 y13 y14 y15 y16 y17 y18 y19 y20 y21))
  | 0 => ⟨fun _ _ _ _ _ _ _ _ _ _ _ _ _ _ _ _ _ _ _ _ _ r h => by simp [quarrellaw20_same.j0] at h, fun _ _ _ _ _ _ _ _ _ _ _ _ _ _ _ _ _ _ _ _ _ r h => by simp [quarrellaw20_same.l0] at h, fun _ _ _ _ _ _ _ _ _ _ _ _ _ _ _ _ _ _ _ _ _ _ r h => by simp [quarrellaw20_same.l1] at h⟩
  | k + 1 => by
    obtain ⟨ih0, ih1, ih2⟩ := quarrellaw20_same.mono_l k
    refine ⟨?_, ?_, ?_⟩
    · intro y0 y1 y2 y3 y4 y5 y6 y7 y8 y9 y10 y11 y12 y13 y14 y15 y16 y17 y18 y19 y20
      unfold quarrellaw20_same.j0
      repeat' first
      | (with_reducible exact ih0 _ _ _ _ _ _ _ _ _ _ _ _ _ _ _ _ _ _ _ _ _)
      | (with_reducible exact ih1 _ _ _ _ _ _ _ _ _ _ _ _ _ _ _ _ _ _ _ _ _)
      | (with_reducible exact ih2 _ _ _ _ _ _ _ _ _ _ _ _ _ _ _ _ _ _ _ _ _ _)
      | (with_reducible exact quarrelref01_Ints.mono _ _ _)
      | (with_reducible exact quarrelref01_Vals.mono _ _ _)
      | (with_reducible exact quarrelref11_Same.mono _ _ _)
      | (with_reducible exact LeO.refl _)
      | (with_reducible exact LeO.none _)
      | (with_reducible refine LeO.ite ?_ ?_)
      | (with_reducible refine LeO.bind ?_ (fun _ => ?_))
      | exact ih0 _ _ _ _ _ _ _ _ _ _ _ _ _ _ _ _ _ _ _ _ _
      | exact ih1 _ _ _ _ _ _ _ _ _ _ _ _ _ _ _ _ _ _ _ _ _
      | exact ih2 _ _ _ _ _ _ _ _ _ _ _ _ _ _ _ _ _ _ _ _ _ _
      | exact quarrelref01_Ints.mono _ _ _
      | exact quarrelref01_Vals.mono _ _ _
      | exact quarrelref11_Same.mono _ _ _
      | exact LeO.none _
      | refine LeO.ite ?_ ?_
      | refine LeO.bind ?_ (fun _ => ?_)
    · intro y0 y1 y2 y3 y4 y5 y6 y7 y8 y9 y10 y11 y12 y13 y14 y15 y16 y17 y18 y19 y20
      unfold quarrellaw20_same.l0
      repeat' first
      | (with_reducible exact ih0 _ _ _ _ _ _ _ _ _ _ _ _ _ _ _ _ _ _ _ _ _)
      | (with_reducible exact ih1 _ _ _ _ _ _ _ _ _ _ _ _ _ _ _ _ _ _ _ _ _)
      | (with_reducible exact ih2 _ _ _ _ _ _ _ _ _ _ _ _ _ _ _ _ _ _ _ _ _ _)
      | (with_reducible exact quarrelref01_Ints.mono _ _ _)
      | (with_reducible exact quarrelref01_Vals.mono _ _ _)
      | (with_reducible exact quarrelref11_Same.mono _ _ _)
      | (with_reducible exact LeO.refl _)
      | (with_reducible exact LeO.none _)
      | (with_reducible refine LeO.ite ?_ ?_)
      | (with_reducible refine LeO.bind ?_ (fun _ => ?_))
      | exact ih0 _ _ _ _ _ _ _ _ _ _ _ _ _ _ _ _ _ _ _ _ _
      | exact ih1 _ _ _ _ _ _ _ _ _ _ _ _ _ _ _ _ _ _ _ _ _
      | exact ih2 _ _ _ _ _ _ _ _ _ _ _ _ _ _ _ _ _ _ _ _ _ _
      | exact quarrelref01_Ints.mono _ _ _
      | exact quarrelref01_Vals.mono _ _ _
      | exact quarrelref11_Same.mono _ _ _
      | exact LeO.none _
      | refine LeO.ite ?_ ?_
      | refine LeO.bind ?_ (fun _ => ?_)
    · intro y0 y1 y2 y3 y4 y5 y6 y7 y8 y9 y10 y11 y12 y13 y14 y15 y16 y17 y18 y19 y20 y21
      unfold quarrellaw20_same.l1
      repeat' first
      | (with_reducible exact ih0 _ _ _ _ _ _ _ _ _ _ _ _ _ _ _ _ _ _ _ _ _)
      | (with_reducible exact ih1 _ _ _ _ _ _ _ _ _ _ _ _ _ _ _ _ _ _ _ _ _)
      | (with_reducible exact ih2 _ _ _ _ _ _ _ _ _ _ _ _ _ _ _ _ _ _ _ _ _ _)
      | (with_reducible exact quarrelref01_Ints.mono _ _ _)
      | (with_reducible exact quarrelref01_Vals.mono _ _ _)
      | (with_reducible exact quarrelref11_Same.mono _ _ _)
      | (with_reducible exact LeO.refl _)
      | (with_reducible exact LeO.none _)
      | (with_reducible refine LeO.ite ?_ ?_)
      | (with_reducible refine LeO.bind ?_ (fun _ => ?_))
      | exact ih0 _ _ _ _ _ _ _ _ _ _ _ _ _ _ _ _ _ _ _ _ _
      | exact ih1 _ _ _ _ _ _ _ _ _ _ _ _ _ _ _ _ _ _ _ _ _
      | exact ih2 _ _ _ _ _ _ _ _ _ _ _ _ _ _ _ _ _ _ _ _ _ _
      | exact quarrelref01_Ints.mono _ _ _
      | exact quarrelref01_Vals.mono _ _ _
      | exact quarrelref11_Same.mono _ _ _
      | exact LeO.none _
      | refine LeO.ite ?_ ?_
      | refine LeO.bind ?_ (fun _ => ?_)
theorem quarrellaw20_same.mono : ∀ a0 a1 a2 a3 a4 a5 a6 a7 a8 a9 a10 a11 a12 a13 a14 a15 a16 a17 a18 a19 k, LeO (quarrellaw20_same.f k a0 a1 a2 a3 a4 a5 a6 a7 a8 a9 a10 a11 a12 a13 a14 a15 a16 a17 a18 a19) (quarrellaw20_same.f (k + 1) a0 a1 a2 a3 a4 a5 a6 a7 a8 a9 a10 a11 a12 a13 a14 a15 a16 a17 a18 a19) := by
  intro a0 a1 a2 a3 a4 a5 a6 a7 a8 a9 a10 a11 a12 a13 a14 a15 a16 a17 a18 a19 k
  obtain ⟨ih0, ih1, ih2⟩ := quarrellaw20_same.mono_l k
  unfold quarrellaw20_same.f
  repeat' first
      | (with_reducible exact ih0 _ _ _ _ _ _ _ _ _ _ _ _ _ _ _ _ _ _ _ _ _)
      | (with_reducible exact ih1 _ _ _ _ _ _ _ _ _ _ _ _ _ _ _ _ _ _ _ _ _)
      | (with_reducible exact ih2 _ _ _ _ _ _ _ _ _ _ _ _ _ _ _ _ _ _ _ _ _ _)
      | (with_reducible exact quarrelref01_Ints.mono _ _ _)
      | (with_reducible exact quarrelref01_Vals.mono _ _ _)
      | (with_reducible exact quarrelref11_Same.mono _ _ _)
      | (with_reducible exact LeO.refl _)
      | (with_reducible exact LeO.none _)
      | (with_reducible refine LeO.ite ?_ ?_)
      | (with_reducible refine LeO.bind ?_ (fun _ => ?_))
      | exact ih0 _ _ _ _ _ _ _ _ _ _ _ _ _ _ _ _ _ _ _ _ _
      | exact ih1 _ _ _ _ _ _ _ _ _ _ _ _ _ _ _ _ _ _ _ _ _
      | exact ih2 _ _ _ _ _ _ _ _ _ _ _ _ _ _ _ _ _ _ _ _ _ _
      | exact quarrelref01_Ints.mono _ _ _
      | exact quarrelref01_Vals.mono _ _ _
      | exact quarrelref11_Same.mono _ _ _
      | exact LeO.none _
      | refine LeO.ite ?_ ?_
      | refine LeO.bind ?_ (fun _ => ?_)
set_option maxHeartbeats 8000000 in
set_option maxRecDepth 100000 in
theorem quarrellaw20_same.calls (k : Nat) (a0_0 : Int) (a0_1 : Int) (a0_2 : Int) (a0_3 : Int) (a0_4 : Int) (a0_5 : Int) (A0_6 : Option Addr) (c0_6 : Nat) (l0_6 : List Int) (A0_7 : Option Addr) (c0_7 : Nat) (l0_7 : List Int) (A0_8 : Option Addr) (c0_8 : Nat) (l0_8 : List (List (List (S80)))) (A0_9 : Option Addr) (c0_9 : Nat) (l0_9 : List Int) (a1_0 : Int) (a1_1 : Int) (a1_2 : Int) (a1_3 : Int) (a1_4 : Int) (a1_5 : Int) (A1_6 : Option Addr) (c1_6 : Nat) (l1_6 : List Int) (A1_7 : Option Addr) (c1_7 : Nat) (l1_7 : List Int) (A1_8 : Option Addr) (c1_8 : Nat) (l1_8 : List (List (List (S80)))) (A1_9 : Option Addr) (c1_9 : Nat) (l1_9 : List Int) (r : Bool) (w : World) (hr0_6 : Kd.C (Kd.int .i64) w A0_6 l0_6.length l0_6) (hc0_6 : l0_6.length ≤ c0_6) (hr0_7 : Kd.C (Kd.int .u8) w A0_7 l0_7.length l0_7) (hc0_7 : l0_7.length ≤ c0_7) (hr0_8 : Kd.C (Kd.slice 61 (Kd.slice 80 k80)) w A0_8 l0_8.length l0_8) (hc0_8 : l0_8.length ≤ c0_8) (hr0_9 : Kd.C (Kd.int .i64) w A0_9 l0_9.length l0_9) (hc0_9 : l0_9.length ≤ c0_9) (hr1_6 : Kd.C (Kd.int .i64) w A1_6 l1_6.length l1_6) (hc1_6 : l1_6.length ≤ c1_6) (hr1_7 : Kd.C (Kd.int .u8) w A1_7 l1_7.length l1_7) (hc1_7 : l1_7.length ≤ c1_7) (hr1_8 : Kd.C (Kd.slice 61 (Kd.slice 80 k80)) w A1_8 l1_8.length l1_8) (hc1_8 : l1_8.length ≤ c1_8) (hr1_9 : Kd.C (Kd.int .i64) w A1_9 l1_9.length l1_9) (hc1_9 : l1_9.length ≤ c1_9) (h : quarrellaw20_same.f k a0_0 a0_1 a0_2 a0_3 a0_4 a0_5 l0_6 l0_7 l0_8 l0_9 a1_0 a1_1 a1_2 a1_3 a1_4 a1_5 l1_6 l1_7 l1_8 l1_9 = some r) :
  Calls Try.prog 12 #[.agg #[.int .i64 a0_0, .int .i64 a0_1, .int .i64 a0_2, .int .i64 a0_3, .int .i64 a0_4, .int .i64 a0_5, .slice A0_6 l0_6.length c0_6, .slice A0_7 l0_7.length c0_7, .slice A0_8 l0_8.length c0_8, .slice A0_9 l0_9.length c0_9], .agg #[.int .i64 a1_0, .int .i64 a1_1, .int .i64 a1_2, .int .i64 a1_3, .int .i64 a1_4, .int .i64 a1_5, .slice A1_6 l1_6.length c1_6, .slice A1_7 l1_7.length c1_7, .slice A1_8 l1_8.length c1_8, .slice A1_9 l1_9.length c1_9]] w fun e w' => e = .returned (.bool r) ∧ Below w.heap.size w w' := by
 have hu30 := Try.underlying30
 have hu34 := Try.underlying34
 have hu25 := Try.underlying25
 have HR0_6 := Aside0.mk hr0_6
 have HC0_6 := Aside0.mk hc0_6
 clear hr0_6 hc0_6
 have HR0_7 := Aside0.mk hr0_7
 have HC0_7 := Aside0.mk hc0_7
 clear hr0_7 hc0_7
 have HR0_8 := Aside0.mk hr0_8
 have HC0_8 := Aside0.mk hc0_8
 clear hr0_8 hc0_8
 have HR0_9 := Aside0.mk hr0_9
 have HC0_9 := Aside0.mk hc0_9
 clear hr0_9 hc0_9
 have HR1_6 := Aside0.mk hr1_6
 have HC1_6 := Aside0.mk hc1_6
 clear hr1_6 hc1_6
 have HR1_7 := Aside0.mk hr1_7
 have HC1_7 := Aside0.mk hc1_7
 clear hr1_7 hc1_7
 have HR1_8 := Aside0.mk hr1_8
 have HC1_8 := Aside0.mk hc1_8
 clear hr1_8 hc1_8
 have HR1_9 := Aside0.mk hr1_9
 have HC1_9 := Aside0.mk hc1_9
 clear hr1_9 hc1_9
 have HB := Aside0.mk (Below.refl w.heap.size w)
 have H : (if (!(a0_0 == a1_0) || (!(a0_1 == a1_1) || (!(a0_2 == a1_2) || (!(a0_3 == a1_3) || (!(a0_4 == a1_4) || (!(a0_5 == a1_5))))))) = true then (quarrellaw20_same.j0 k true a0_0 a0_1 a0_2 a0_3 a0_4 a0_5 l0_6 l0_7 l0_8 l0_9 a1_0 a1_1 a1_2 a1_3 a1_4 a1_5 l1_6 l1_7 l1_8 l1_9) else ((quarrelref01_Vals.f k l0_6 l1_6).bind fun t175 => (if t175 = true then (if (strOfNums l0_7).toList = (strOfNums l1_7).toList then ((quarrelref01_Ints.f k l0_9 l1_9).bind fun t176 => (if t176 = true then (quarrellaw20_same.j0 k ((l0_8.length : Int) != (l1_8.length : Int)) a0_0 a0_1 a0_2 a0_3 a0_4 a0_5 l0_6 l0_7 l0_8 l0_9 a1_0 a1_1 a1_2 a1_3 a1_4 a1_5 l1_6 l1_7 l1_8 l1_9) else (quarrellaw20_same.j0 k true a0_0 a0_1 a0_2 a0_3 a0_4 a0_5 l0_6 l0_7 l0_8 l0_9 a1_0 a1_1 a1_2 a1_3 a1_4 a1_5 l1_6 l1_7 l1_8 l1_9))) else (quarrellaw20_same.j0 k true a0_0 a0_1 a0_2 a0_3 a0_4 a0_5 l0_6 l0_7 l0_8 l0_9 a1_0 a1_1 a1_2 a1_3 a1_4 a1_5 l1_6 l1_7 l1_8 l1_9)) else (quarrellaw20_same.j0 k true a0_0 a0_1 a0_2 a0_3 a0_4 a0_5 l0_6 l0_7 l0_8 l0_9 a1_0 a1_1 a1_2 a1_3 a1_4 a1_5 l1_6 l1_7 l1_8 l1_9)))) = some r := h
 clear h
 have HC3 := Aside0.mk H
 clear H
 go_enter Try.func12, Try.ntmps12
 go_upto_region 1 with (first | ((with_reducible refine gate_dst (N := 2) rfl ?_); (try (refine gate_guard (by rfl) ?_; dsimp only)); refine box_event ?hg (N := 2) ?hd (cs := #[.int .i64 a0_0, .int .i64 a0_1, .int .i64 a0_2, .int .i64 a0_3, .int .i64 a0_4, .int .i64 a0_5, .slice A0_6 l0_6.length c0_6, .slice A0_7 l0_7.length c0_7, .slice A0_8 l0_8.length c0_8, .slice A0_9 l0_9.length c0_9]) (t := 30) ?hr ?_; (case hd => rfl); (case hg => rfl); (case hr => first | (go_simp; done) | (go_simp; rfl)); intro gb173 hg w4 hbox hb; have n0_ := Aside0.mk (below_step (by repeat (first | (with_reducible first | exact HB.out | apply bwA | apply bwN | apply bw1) | exact HB.out)) hb); have n1_ := Aside0.mk (hbox); have n2_ := Aside0.mk ((by rw [hg]; exact (below_size (by repeat (first | (with_reducible first | exact HB.out | apply bwA | apply bwN | apply bw1) | exact HB.out))) : w.heap.size ≤ gb173)); have n3_ := Aside0.mk ((by rw [hg]; exact (below_size (by repeat (first | (with_reducible first | exact HB.out | apply bwA | apply bwN | apply bw1) | exact HB.out))) : w.heap.size ≤ gb173)); clear HB; have HB := n0_; have BK173 := n1_; have GW173 := n2_; have GE173 := n3_; clear n0_ n1_ n2_ n3_; clear hb hbox hg) | ((with_reducible refine gate_dst (N := 3) rfl ?_); (try (refine gate_guard (by rfl) ?_; dsimp only)); refine box_event ?hg (N := 3) ?hd (cs := #[.int .i64 a1_0, .int .i64 a1_1, .int .i64 a1_2, .int .i64 a1_3, .int .i64 a1_4, .int .i64 a1_5, .slice A1_6 l1_6.length c1_6, .slice A1_7 l1_7.length c1_7, .slice A1_8 l1_8.length c1_8, .slice A1_9 l1_9.length c1_9]) (t := 34) ?hr ?_; (case hd => rfl); (case hg => rfl); (case hr => first | (go_simp; done) | (go_simp; rfl)); intro gb174 hg w5 hbox hb; have n0_ := Aside0.mk (blk_below (g := gb173) (o := .cells #[.int .i64 a0_0, .int .i64 a0_1, .int .i64 a0_2, .int .i64 a0_3, .int .i64 a0_4, .int .i64 a0_5, .slice A0_6 l0_6.length c0_6, .slice A0_7 l0_7.length c0_7, .slice A0_8 l0_8.length c0_8, .slice A0_9 l0_9.length c0_9] 30 (0, 0)) (by (with_reducible repeat (first | refine blk_drewN ?_ _ | refine blk_drew ?_ | refine blk_alloc ?_ _)); exact BK173.out) hb); have n1_ := Aside0.mk (below_step (by repeat (first | (with_reducible first | exact HB.out | apply bwA | apply bwN | apply bw1 | refine bwS ?_ GE173.out) | exact HB.out)) hb); have n2_ := Aside0.mk (hbox); have n3_ := Aside0.mk ((by rw [hg]; exact (below_size (by repeat (first | (with_reducible first | exact HB.out | apply bwA | apply bwN | apply bw1 | refine bwS ?_ GE173.out) | exact HB.out))) : w.heap.size ≤ gb174)); have n4_ := Aside0.mk ((by rw [hg]; exact (below_size (by repeat (first | (with_reducible first | exact HB.out | apply bwA | apply bwN | apply bw1 | refine bwS ?_ GE173.out) | exact HB.out))) : w.heap.size ≤ gb174)); have n5_ := Aside0.mk ((by rw [hg]; exact Nat.ne_of_lt (blk_lt (g := gb173) (o := .cells #[.int .i64 a0_0, .int .i64 a0_1, .int .i64 a0_2, .int .i64 a0_3, .int .i64 a0_4, .int .i64 a0_5, .slice A0_6 l0_6.length c0_6, .slice A0_7 l0_7.length c0_7, .slice A0_8 l0_8.length c0_8, .slice A0_9 l0_9.length c0_9] 30 (0, 0)) (by (with_reducible repeat (first | refine blk_drewN ?_ _ | refine blk_drew ?_ | refine blk_alloc ?_ _)); exact BK173.out)) : gb173 ≠ gb174)); have n6_ := Aside0.mk ((by rw [hg]; exact Nat.ne_of_gt (blk_lt (g := gb173) (o := .cells #[.int .i64 a0_0, .int .i64 a0_1, .int .i64 a0_2, .int .i64 a0_3, .int .i64 a0_4, .int .i64 a0_5, .slice A0_6 l0_6.length c0_6, .slice A0_7 l0_7.length c0_7, .slice A0_8 l0_8.length c0_8, .slice A0_9 l0_9.length c0_9] 30 (0, 0)) (by (with_reducible repeat (first | refine blk_drewN ?_ _ | refine blk_drew ?_ | refine blk_alloc ?_ _)); exact BK173.out)) : gb174 ≠ gb173)); clear BK173; clear HB; have BK173 := n0_; have HB := n1_; have BK174 := n2_; have GW174 := n3_; have GE174 := n4_; have NB173_174 := n5_; have NB174_173 := n6_; clear n0_ n1_ n2_ n3_ n4_ n5_ n6_; clear hb hbox hg))
 (try simp only [Act.put, List.setIfInBounds_toArray, List.set_cons_zero, List.set_cons_succ])
 go_cut [45] (fun v45 wc => ∃ (kq : Nat) (x45_2 : Bool), v45 = .bool x45_2 ∧ Aside0 (quarrellaw20_same.j0 kq x45_2 a0_0 a0_1 a0_2 a0_3 a0_4 a0_5 l0_6 l0_7 l0_8 l0_9 a1_0 a1_1 a1_2 a1_3 a1_4 a1_5 l1_6 l1_7 l1_8 l1_9 = some r) ∧ Aside0 (kq ≤ k) ∧ Aside0 (wc.heap[gb173]? = some (.cells #[.int .i64 a0_0, .int .i64 a0_1, .int .i64 a0_2, .int .i64 a0_3, .int .i64 a0_4, .int .i64 a0_5, (.slice A0_6 l0_6.length c0_6), (.slice A0_7 l0_7.length c0_7), (.slice A0_8 l0_8.length c0_8), (.slice A0_9 l0_9.length c0_9)] 30 (0, 0))) ∧ Aside0 (wc.heap[gb174]? = some (.cells #[.int .i64 a1_0, .int .i64 a1_1, .int .i64 a1_2, .int .i64 a1_3, .int .i64 a1_4, .int .i64 a1_5, (.slice A1_6 l1_6.length c1_6), (.slice A1_7 l1_7.length c1_7), (.slice A1_8 l1_8.length c1_8), (.slice A1_9 l1_9.length c1_9)] 34 (0, 0))) ∧ Aside0 (Below w.heap.size w wc))
 case first =>
  have H := HC3.out
  clear HC3
  by_cases c6 : (!(a0_0 == a1_0) || (!(a0_1 == a1_1) || (!(a0_2 == a1_2) || (!(a0_3 == a1_3) || (!(a0_4 == a1_4) || (!(a0_5 == a1_5))))))) = true
  ·rw [if_pos c6] at H
   have c6b0 : (!(a0_0 == a1_0) || (!(a0_1 == a1_1) || (!(a0_2 == a1_2) || (!(a0_3 == a1_3) || (!(a0_4 == a1_4) || (!(a0_5 == a1_5))))))) = true := c6
   clear c6
   (first | rw [c6b0] | (simp only [i64_w, i32_w]; rw [c6b0]) | skip)
   have H' := Aside0.mk H
   clear H
   have hnb7 := NB173_174.out
   have hnc7 := NB174_173.out
   obtain ⟨hcz8_0, hcz8_1, hcz8_2, hcz8_3, hcz8_4, hcz8_5, hcz8_6, hcz8_7, hcz8_8, hcz8_9, hfz8_0, hfz8_1, hfz8_2, hfz8_3, hfz8_4, hfz8_5, hfz8_6, hfz8_7, hfz8_8, hfz8_9⟩ := cf10 BK173.out
   obtain ⟨hcz9_0, hcz9_1, hcz9_2, hcz9_3, hcz9_4, hcz9_5, hcz9_6, hcz9_7, hcz9_8, hcz9_9, hfz9_0, hfz9_1, hfz9_2, hfz9_3, hfz9_4, hfz9_5, hfz9_6, hfz9_7, hfz9_8, hfz9_9⟩ := cf10 BK174.out
   go_wp2
   repeat (go_quiet (fail); try go_wp2)
   go_meet
   case rel => exact ⟨_, (true), (by first | rfl | (simp; done) | (simp [*]; done)), H', ⟨by first | omega | exact Nat.le_refl _⟩, ⟨by (with_reducible repeat (first | refine blk_drewN ?_ _ | refine blk_drew ?_ | refine blk_alloc ?_ _)); exact BK173.out⟩, ⟨by (with_reducible repeat (first | refine blk_drewN ?_ _ | refine blk_drew ?_ | refine blk_alloc ?_ _)); exact BK174.out⟩, ⟨by repeat (first | (with_reducible first | exact HB.out | apply bwA | apply bwN | apply bw1 | refine bwS ?_ GE173.out | refine bwS ?_ GE174.out) | exact HB.out)⟩⟩
  ·rw [if_neg c6] at H
   have c6b0 : (!(a0_0 == a1_0) || (!(a0_1 == a1_1) || (!(a0_2 == a1_2) || (!(a0_3 == a1_3) || (!(a0_4 == a1_4) || (!(a0_5 == a1_5))))))) = false := by simpa using c6
   clear c6
   (first | rw [c6b0] | (simp only [i64_w, i32_w]; rw [c6b0]) | skip)
   replace H := Option.bind_eq_some_iff.mp H
   obtain ⟨t175, A100, H⟩ := H
   replace H : (if t175 = true then (if (strOfNums l0_7).toList = (strOfNums l1_7).toList then ((quarrelref01_Ints.f k l0_9 l1_9).bind fun t176 => (if t176 = true then (quarrellaw20_same.j0 k ((l0_8.length : Int) != (l1_8.length : Int)) a0_0 a0_1 a0_2 a0_3 a0_4 a0_5 l0_6 l0_7 l0_8 l0_9 a1_0 a1_1 a1_2 a1_3 a1_4 a1_5 l1_6 l1_7 l1_8 l1_9) else (quarrellaw20_same.j0 k true a0_0 a0_1 a0_2 a0_3 a0_4 a0_5 l0_6 l0_7 l0_8 l0_9 a1_0 a1_1 a1_2 a1_3 a1_4 a1_5 l1_6 l1_7 l1_8 l1_9))) else (quarrellaw20_same.j0 k true a0_0 a0_1 a0_2 a0_3 a0_4 a0_5 l0_6 l0_7 l0_8 l0_9 a1_0 a1_1 a1_2 a1_3 a1_4 a1_5 l1_6 l1_7 l1_8 l1_9)) else (quarrellaw20_same.j0 k true a0_0 a0_1 a0_2 a0_3 a0_4 a0_5 l0_6 l0_7 l0_8 l0_9 a1_0 a1_1 a1_2 a1_3 a1_4 a1_5 l1_6 l1_7 l1_8 l1_9)) = some r := H
   have A10 := Aside0.mk A100
   clear A100
   by_cases c11 : t175 = true
   ·subst c11
    have H1 : (if (strOfNums l0_7).toList = (strOfNums l1_7).toList then ((quarrelref01_Ints.f k l0_9 l1_9).bind fun t176 => (if t176 = true then (quarrellaw20_same.j0 k ((l0_8.length : Int) != (l1_8.length : Int)) a0_0 a0_1 a0_2 a0_3 a0_4 a0_5 l0_6 l0_7 l0_8 l0_9 a1_0 a1_1 a1_2 a1_3 a1_4 a1_5 l1_6 l1_7 l1_8 l1_9) else (quarrellaw20_same.j0 k true a0_0 a0_1 a0_2 a0_3 a0_4 a0_5 l0_6 l0_7 l0_8 l0_9 a1_0 a1_1 a1_2 a1_3 a1_4 a1_5 l1_6 l1_7 l1_8 l1_9))) else (quarrellaw20_same.j0 k true a0_0 a0_1 a0_2 a0_3 a0_4 a0_5 l0_6 l0_7 l0_8 l0_9 a1_0 a1_1 a1_2 a1_3 a1_4 a1_5 l1_6 l1_7 l1_8 l1_9)) = some r := by rw [if_pos rfl] at H; exact H
    clear H
    have H := H1
    clear H1
    by_cases c12 : (strOfNums l0_7).toList = (strOfNums l1_7).toList
    ·rw [if_pos c12] at H
     have c12b0 : ((strOfNums l0_7).toList == (strOfNums l1_7).toList) = true := beq_iff_eq.mpr c12
     have c12b1 : ((strOfNums l0_7).toList != (strOfNums l1_7).toList) = false := bne_eq_false_iff_eq.mpr c12
     clear c12
     replace H := Option.bind_eq_some_iff.mp H
     obtain ⟨t176, A130, H⟩ := H
     replace H : (if t176 = true then (quarrellaw20_same.j0 k ((l0_8.length : Int) != (l1_8.length : Int)) a0_0 a0_1 a0_2 a0_3 a0_4 a0_5 l0_6 l0_7 l0_8 l0_9 a1_0 a1_1 a1_2 a1_3 a1_4 a1_5 l1_6 l1_7 l1_8 l1_9) else (quarrellaw20_same.j0 k true a0_0 a0_1 a0_2 a0_3 a0_4 a0_5 l0_6 l0_7 l0_8 l0_9 a1_0 a1_1 a1_2 a1_3 a1_4 a1_5 l1_6 l1_7 l1_8 l1_9)) = some r := H
     have A13 := Aside0.mk A130
     clear A130
     by_cases c14 : t176 = true
     ·subst c14
      have H1 : (quarrellaw20_same.j0 k ((l0_8.length : Int) != (l1_8.length : Int)) a0_0 a0_1 a0_2 a0_3 a0_4 a0_5 l0_6 l0_7 l0_8 l0_9 a1_0 a1_1 a1_2 a1_3 a1_4 a1_5 l1_6 l1_7 l1_8 l1_9) = some r := by rw [if_pos rfl] at H; exact H
      clear H
      have H := H1
      clear H1
      have H' := Aside0.mk H
      clear H
      have hnb15 := NB173_174.out
      have hnc15 := NB174_173.out
      obtain ⟨hcz16_0, hcz16_1, hcz16_2, hcz16_3, hcz16_4, hcz16_5, hcz16_6, hcz16_7, hcz16_8, hcz16_9, hfz16_0, hfz16_1, hfz16_2, hfz16_3, hfz16_4, hfz16_5, hfz16_6, hfz16_7, hfz16_8, hfz16_9⟩ := cf10 BK173.out
      obtain ⟨hcz17_0, hcz17_1, hcz17_2, hcz17_3, hcz17_4, hcz17_5, hcz17_6, hcz17_7, hcz17_8, hcz17_9, hfz17_0, hfz17_1, hfz17_2, hfz17_3, hfz17_4, hfz17_5, hfz17_6, hfz17_7, hfz17_8, hfz17_9⟩ := cf10 BK174.out
      go_wp2_with (first | (go_at_call 19; (with_reducible refine (quarrelref01_Vals.calls k _ _ l0_6 _ _ l1_6 true _ ?side1 ?side2 ?side3 ?side4 A10.out).mono ?_); (case side1 => repeat (first | exact (Kd.C_below HR0_6.out HB.out) | (with_reducible refine Kd.C_alloc ?_ _) | (with_reducible refine Kd.C_drewN ?_ _) | (with_reducible refine Kd.C_drew ?_))); (case side2 => exact HC0_6.out); (case side3 => repeat (first | exact (Kd.C_below HR1_6.out HB.out) | (with_reducible refine Kd.C_alloc ?_ _) | (with_reducible refine Kd.C_drewN ?_ _) | (with_reducible refine Kd.C_drew ?_))); (case side4 => exact HC1_6.out); rintro e w' ⟨rfl, ⟨nd, rfl⟩⟩; (try first | exact ⟨rfl, _, World.drewN_drewN _ _ _⟩ | exact ⟨rfl, _, Eq.trans (World.drewN_drewN _ _ _) (congrArg (World.drewN _) (Nat.add_assoc _ _ _))⟩); have hcv18 := Kd.C_string (P := Try.prog) (A := A0_7) (c := c0_7) Try.underlying22 Try.underlying5 Try.underlying9 (Kd.C_drewN (Kd.C_below HR0_7.out HB.out) nd); have hcv19 := Kd.C_string (P := Try.prog) (A := A1_7) (c := c1_7) Try.underlying22 Try.underlying5 Try.underlying9 (Kd.C_drewN (Kd.C_below HR1_7.out HB.out) nd)) | (go_at_call 28; (with_reducible refine (quarrelref01_Ints.calls k _ _ l0_9 _ _ l1_9 true _ ?side1 ?side2 ?side3 ?side4 A13.out).mono ?_); (case side1 => repeat (first | exact (Kd.C_below HR0_9.out (by repeat (first | (with_reducible first | exact HB.out | apply bwA | apply bwN | apply bw1 | refine bwS ?_ GE173.out | refine bwS ?_ GE174.out) | exact HB.out))) | (with_reducible refine Kd.C_alloc ?_ _) | (with_reducible refine Kd.C_drewN ?_ _) | (with_reducible refine Kd.C_drew ?_))); (case side2 => exact HC0_9.out); (case side3 => repeat (first | exact (Kd.C_below HR1_9.out (by repeat (first | (with_reducible first | exact HB.out | apply bwA | apply bwN | apply bw1 | refine bwS ?_ GE173.out | refine bwS ?_ GE174.out) | exact HB.out))) | (with_reducible refine Kd.C_alloc ?_ _) | (with_reducible refine Kd.C_drewN ?_ _) | (with_reducible refine Kd.C_drew ?_))); (case side4 => exact HC1_9.out); rintro e w' ⟨rfl, ⟨nd, rfl⟩⟩; (try first | exact ⟨rfl, _, World.drewN_drewN _ _ _⟩ | exact ⟨rfl, _, Eq.trans (World.drewN_drewN _ _ _) (congrArg (World.drewN _) (Nat.add_assoc _ _ _))⟩)))
      go_meet
      case rel => exact ⟨_, (((l0_8.length : Int) != (l1_8.length : Int))), (by first | rfl | (simp; done) | (simp [*]; done)), H', ⟨by first | omega | exact Nat.le_refl _⟩, ⟨by (with_reducible repeat (first | refine blk_drewN ?_ _ | refine blk_drew ?_ | refine blk_alloc ?_ _)); exact BK173.out⟩, ⟨by (with_reducible repeat (first | refine blk_drewN ?_ _ | refine blk_drew ?_ | refine blk_alloc ?_ _)); exact BK174.out⟩, ⟨by repeat (first | (with_reducible first | exact HB.out | apply bwA | apply bwN | apply bw1 | refine bwS ?_ GE173.out | refine bwS ?_ GE174.out) | exact HB.out)⟩⟩
     ·replace c14 := Bool.eq_false_iff.mpr c14
      subst c14
      have H1 : (quarrellaw20_same.j0 k true a0_0 a0_1 a0_2 a0_3 a0_4 a0_5 l0_6 l0_7 l0_8 l0_9 a1_0 a1_1 a1_2 a1_3 a1_4 a1_5 l1_6 l1_7 l1_8 l1_9) = some r := by rw [if_neg (show ¬ (false = true) by decide)] at H; exact H
      clear H
      have H := H1
      clear H1
      have H' := Aside0.mk H
      clear H
      have hnb20 := NB173_174.out
      have hnc20 := NB174_173.out
      obtain ⟨hcz21_0, hcz21_1, hcz21_2, hcz21_3, hcz21_4, hcz21_5, hcz21_6, hcz21_7, hcz21_8, hcz21_9, hfz21_0, hfz21_1, hfz21_2, hfz21_3, hfz21_4, hfz21_5, hfz21_6, hfz21_7, hfz21_8, hfz21_9⟩ := cf10 BK173.out
      obtain ⟨hcz22_0, hcz22_1, hcz22_2, hcz22_3, hcz22_4, hcz22_5, hcz22_6, hcz22_7, hcz22_8, hcz22_9, hfz22_0, hfz22_1, hfz22_2, hfz22_3, hfz22_4, hfz22_5, hfz22_6, hfz22_7, hfz22_8, hfz22_9⟩ := cf10 BK174.out
      go_wp2_with (first | (go_at_call 19; (with_reducible refine (quarrelref01_Vals.calls k _ _ l0_6 _ _ l1_6 true _ ?side1 ?side2 ?side3 ?side4 A10.out).mono ?_); (case side1 => repeat (first | exact (Kd.C_below HR0_6.out HB.out) | (with_reducible refine Kd.C_alloc ?_ _) | (with_reducible refine Kd.C_drewN ?_ _) | (with_reducible refine Kd.C_drew ?_))); (case side2 => exact HC0_6.out); (case side3 => repeat (first | exact (Kd.C_below HR1_6.out HB.out) | (with_reducible refine Kd.C_alloc ?_ _) | (with_reducible refine Kd.C_drewN ?_ _) | (with_reducible refine Kd.C_drew ?_))); (case side4 => exact HC1_6.out); rintro e w' ⟨rfl, ⟨nd, rfl⟩⟩; (try first | exact ⟨rfl, _, World.drewN_drewN _ _ _⟩ | exact ⟨rfl, _, Eq.trans (World.drewN_drewN _ _ _) (congrArg (World.drewN _) (Nat.add_assoc _ _ _))⟩); have hcv23 := Kd.C_string (P := Try.prog) (A := A0_7) (c := c0_7) Try.underlying22 Try.underlying5 Try.underlying9 (Kd.C_drewN (Kd.C_below HR0_7.out HB.out) nd); have hcv24 := Kd.C_string (P := Try.prog) (A := A1_7) (c := c1_7) Try.underlying22 Try.underlying5 Try.underlying9 (Kd.C_drewN (Kd.C_below HR1_7.out HB.out) nd)) | (go_at_call 28; (with_reducible refine (quarrelref01_Ints.calls k _ _ l0_9 _ _ l1_9 false _ ?side1 ?side2 ?side3 ?side4 A13.out).mono ?_); (case side1 => repeat (first | exact (Kd.C_below HR0_9.out (by repeat (first | (with_reducible first | exact HB.out | apply bwA | apply bwN | apply bw1 | refine bwS ?_ GE173.out | refine bwS ?_ GE174.out) | exact HB.out))) | (with_reducible refine Kd.C_alloc ?_ _) | (with_reducible refine Kd.C_drewN ?_ _) | (with_reducible refine Kd.C_drew ?_))); (case side2 => exact HC0_9.out); (case side3 => repeat (first | exact (Kd.C_below HR1_9.out (by repeat (first | (with_reducible first | exact HB.out | apply bwA | apply bwN | apply bw1 | refine bwS ?_ GE173.out | refine bwS ?_ GE174.out) | exact HB.out))) | (with_reducible refine Kd.C_alloc ?_ _) | (with_reducible refine Kd.C_drewN ?_ _) | (with_reducible refine Kd.C_drew ?_))); (case side4 => exact HC1_9.out); rintro e w' ⟨rfl, ⟨nd, rfl⟩⟩; (try first | exact ⟨rfl, _, World.drewN_drewN _ _ _⟩ | exact ⟨rfl, _, Eq.trans (World.drewN_drewN _ _ _) (congrArg (World.drewN _) (Nat.add_assoc _ _ _))⟩)))
      go_meet
      case rel => exact ⟨_, (true), (by first | rfl | (simp; done) | (simp [*]; done)), H', ⟨by first | omega | exact Nat.le_refl _⟩, ⟨by (with_reducible repeat (first | refine blk_drewN ?_ _ | refine blk_drew ?_ | refine blk_alloc ?_ _)); exact BK173.out⟩, ⟨by (with_reducible repeat (first | refine blk_drewN ?_ _ | refine blk_drew ?_ | refine blk_alloc ?_ _)); exact BK174.out⟩, ⟨by repeat (first | (with_reducible first | exact HB.out | apply bwA | apply bwN | apply bw1 | refine bwS ?_ GE173.out | refine bwS ?_ GE174.out) | exact HB.out)⟩⟩
    ·rw [if_neg c12] at H
     have c12b0 : ((strOfNums l0_7).toList == (strOfNums l1_7).toList) = false := beq_eq_false_iff_ne.mpr c12
     have c12b1 : ((strOfNums l0_7).toList != (strOfNums l1_7).toList) = true := bne_iff_ne.mpr c12
     have H' := Aside0.mk H
     clear H
     have hnb25 := NB173_174.out
     have hnc25 := NB174_173.out
     obtain ⟨hcz26_0, hcz26_1, hcz26_2, hcz26_3, hcz26_4, hcz26_5, hcz26_6, hcz26_7, hcz26_8, hcz26_9, hfz26_0, hfz26_1, hfz26_2, hfz26_3, hfz26_4, hfz26_5, hfz26_6, hfz26_7, hfz26_8, hfz26_9⟩ := cf10 BK173.out
     obtain ⟨hcz27_0, hcz27_1, hcz27_2, hcz27_3, hcz27_4, hcz27_5, hcz27_6, hcz27_7, hcz27_8, hcz27_9, hfz27_0, hfz27_1, hfz27_2, hfz27_3, hfz27_4, hfz27_5, hfz27_6, hfz27_7, hfz27_8, hfz27_9⟩ := cf10 BK174.out
     go_wp2_with (first | (go_at_call 19; (with_reducible refine (quarrelref01_Vals.calls k _ _ l0_6 _ _ l1_6 true _ ?side1 ?side2 ?side3 ?side4 A10.out).mono ?_); (case side1 => repeat (first | exact (Kd.C_below HR0_6.out HB.out) | (with_reducible refine Kd.C_alloc ?_ _) | (with_reducible refine Kd.C_drewN ?_ _) | (with_reducible refine Kd.C_drew ?_))); (case side2 => exact HC0_6.out); (case side3 => repeat (first | exact (Kd.C_below HR1_6.out HB.out) | (with_reducible refine Kd.C_alloc ?_ _) | (with_reducible refine Kd.C_drewN ?_ _) | (with_reducible refine Kd.C_drew ?_))); (case side4 => exact HC1_6.out); rintro e w' ⟨rfl, ⟨nd, rfl⟩⟩; (try first | exact ⟨rfl, _, World.drewN_drewN _ _ _⟩ | exact ⟨rfl, _, Eq.trans (World.drewN_drewN _ _ _) (congrArg (World.drewN _) (Nat.add_assoc _ _ _))⟩); have hcv28 := Kd.C_string (P := Try.prog) (A := A0_7) (c := c0_7) Try.underlying22 Try.underlying5 Try.underlying9 (Kd.C_drewN (Kd.C_below HR0_7.out HB.out) nd); have hcv29 := Kd.C_string (P := Try.prog) (A := A1_7) (c := c1_7) Try.underlying22 Try.underlying5 Try.underlying9 (Kd.C_drewN (Kd.C_below HR1_7.out HB.out) nd)))
     repeat (go_quiet (first | (go_at_call 19; (with_reducible refine (quarrelref01_Vals.calls k _ _ l0_6 _ _ l1_6 true _ ?side1 ?side2 ?side3 ?side4 A10.out).mono ?_); (case side1 => repeat (first | exact (Kd.C_below HR0_6.out HB.out) | (with_reducible refine Kd.C_alloc ?_ _) | (with_reducible refine Kd.C_drewN ?_ _) | (with_reducible refine Kd.C_drew ?_))); (case side2 => exact HC0_6.out); (case side3 => repeat (first | exact (Kd.C_below HR1_6.out HB.out) | (with_reducible refine Kd.C_alloc ?_ _) | (with_reducible refine Kd.C_drewN ?_ _) | (with_reducible refine Kd.C_drew ?_))); (case side4 => exact HC1_6.out); rintro e w' ⟨rfl, ⟨nd, rfl⟩⟩; (try first | exact ⟨rfl, _, World.drewN_drewN _ _ _⟩ | exact ⟨rfl, _, Eq.trans (World.drewN_drewN _ _ _) (congrArg (World.drewN _) (Nat.add_assoc _ _ _))⟩); have hcv28 := Kd.C_string (P := Try.prog) (A := A0_7) (c := c0_7) Try.underlying22 Try.underlying5 Try.underlying9 (Kd.C_drewN (Kd.C_below HR0_7.out HB.out) nd); have hcv29 := Kd.C_string (P := Try.prog) (A := A1_7) (c := c1_7) Try.underlying22 Try.underlying5 Try.underlying9 (Kd.C_drewN (Kd.C_below HR1_7.out HB.out) nd))); try go_wp2_with (first | (go_at_call 19; (with_reducible refine (quarrelref01_Vals.calls k _ _ l0_6 _ _ l1_6 true _ ?side1 ?side2 ?side3 ?side4 A10.out).mono ?_); (case side1 => repeat (first | exact (Kd.C_below HR0_6.out HB.out) | (with_reducible refine Kd.C_alloc ?_ _) | (with_reducible refine Kd.C_drewN ?_ _) | (with_reducible refine Kd.C_drew ?_))); (case side2 => exact HC0_6.out); (case side3 => repeat (first | exact (Kd.C_below HR1_6.out HB.out) | (with_reducible refine Kd.C_alloc ?_ _) | (with_reducible refine Kd.C_drewN ?_ _) | (with_reducible refine Kd.C_drew ?_))); (case side4 => exact HC1_6.out); rintro e w' ⟨rfl, ⟨nd, rfl⟩⟩; (try first | exact ⟨rfl, _, World.drewN_drewN _ _ _⟩ | exact ⟨rfl, _, Eq.trans (World.drewN_drewN _ _ _) (congrArg (World.drewN _) (Nat.add_assoc _ _ _))⟩); have hcv28 := Kd.C_string (P := Try.prog) (A := A0_7) (c := c0_7) Try.underlying22 Try.underlying5 Try.underlying9 (Kd.C_drewN (Kd.C_below HR0_7.out HB.out) nd); have hcv29 := Kd.C_string (P := Try.prog) (A := A1_7) (c := c1_7) Try.underlying22 Try.underlying5 Try.underlying9 (Kd.C_drewN (Kd.C_below HR1_7.out HB.out) nd))))
     go_meet
     case rel => exact ⟨_, (true), (by first | rfl | (simp; done) | (simp [*]; done)), H', ⟨by first | omega | exact Nat.le_refl _⟩, ⟨by (with_reducible repeat (first | refine blk_drewN ?_ _ | refine blk_drew ?_ | refine blk_alloc ?_ _)); exact BK173.out⟩, ⟨by (with_reducible repeat (first | refine blk_drewN ?_ _ | refine blk_drew ?_ | refine blk_alloc ?_ _)); exact BK174.out⟩, ⟨by repeat (first | (with_reducible first | exact HB.out | apply bwA | apply bwN | apply bw1 | refine bwS ?_ GE173.out | refine bwS ?_ GE174.out) | exact HB.out)⟩⟩
   ·replace c11 := Bool.eq_false_iff.mpr c11
    subst c11
    have H1 : (quarrellaw20_same.j0 k true a0_0 a0_1 a0_2 a0_3 a0_4 a0_5 l0_6 l0_7 l0_8 l0_9 a1_0 a1_1 a1_2 a1_3 a1_4 a1_5 l1_6 l1_7 l1_8 l1_9) = some r := by rw [if_neg (show ¬ (false = true) by decide)] at H; exact H
    clear H
    have H := H1
    clear H1
    have H' := Aside0.mk H
    clear H
    have hnb30 := NB173_174.out
    have hnc30 := NB174_173.out
    obtain ⟨hcz31_0, hcz31_1, hcz31_2, hcz31_3, hcz31_4, hcz31_5, hcz31_6, hcz31_7, hcz31_8, hcz31_9, hfz31_0, hfz31_1, hfz31_2, hfz31_3, hfz31_4, hfz31_5, hfz31_6, hfz31_7, hfz31_8, hfz31_9⟩ := cf10 BK173.out
    obtain ⟨hcz32_0, hcz32_1, hcz32_2, hcz32_3, hcz32_4, hcz32_5, hcz32_6, hcz32_7, hcz32_8, hcz32_9, hfz32_0, hfz32_1, hfz32_2, hfz32_3, hfz32_4, hfz32_5, hfz32_6, hfz32_7, hfz32_8, hfz32_9⟩ := cf10 BK174.out
    go_wp2_with (first | (go_at_call 19; (with_reducible refine (quarrelref01_Vals.calls k _ _ l0_6 _ _ l1_6 false _ ?side1 ?side2 ?side3 ?side4 A10.out).mono ?_); (case side1 => repeat (first | exact (Kd.C_below HR0_6.out HB.out) | (with_reducible refine Kd.C_alloc ?_ _) | (with_reducible refine Kd.C_drewN ?_ _) | (with_reducible refine Kd.C_drew ?_))); (case side2 => exact HC0_6.out); (case side3 => repeat (first | exact (Kd.C_below HR1_6.out HB.out) | (with_reducible refine Kd.C_alloc ?_ _) | (with_reducible refine Kd.C_drewN ?_ _) | (with_reducible refine Kd.C_drew ?_))); (case side4 => exact HC1_6.out); rintro e w' ⟨rfl, ⟨nd, rfl⟩⟩; (try first | exact ⟨rfl, _, World.drewN_drewN _ _ _⟩ | exact ⟨rfl, _, Eq.trans (World.drewN_drewN _ _ _) (congrArg (World.drewN _) (Nat.add_assoc _ _ _))⟩)))
    repeat (go_quiet (first | (go_at_call 19; (with_reducible refine (quarrelref01_Vals.calls k _ _ l0_6 _ _ l1_6 false _ ?side1 ?side2 ?side3 ?side4 A10.out).mono ?_); (case side1 => repeat (first | exact (Kd.C_below HR0_6.out HB.out) | (with_reducible refine Kd.C_alloc ?_ _) | (with_reducible refine Kd.C_drewN ?_ _) | (with_reducible refine Kd.C_drew ?_))); (case side2 => exact HC0_6.out); (case side3 => repeat (first | exact (Kd.C_below HR1_6.out HB.out) | (with_reducible refine Kd.C_alloc ?_ _) | (with_reducible refine Kd.C_drewN ?_ _) | (with_reducible refine Kd.C_drew ?_))); (case side4 => exact HC1_6.out); rintro e w' ⟨rfl, ⟨nd, rfl⟩⟩; (try first | exact ⟨rfl, _, World.drewN_drewN _ _ _⟩ | exact ⟨rfl, _, Eq.trans (World.drewN_drewN _ _ _) (congrArg (World.drewN _) (Nat.add_assoc _ _ _))⟩))); try go_wp2_with (first | (go_at_call 19; (with_reducible refine (quarrelref01_Vals.calls k _ _ l0_6 _ _ l1_6 false _ ?side1 ?side2 ?side3 ?side4 A10.out).mono ?_); (case side1 => repeat (first | exact (Kd.C_below HR0_6.out HB.out) | (with_reducible refine Kd.C_alloc ?_ _) | (with_reducible refine Kd.C_drewN ?_ _) | (with_reducible refine Kd.C_drew ?_))); (case side2 => exact HC0_6.out); (case side3 => repeat (first | exact (Kd.C_below HR1_6.out HB.out) | (with_reducible refine Kd.C_alloc ?_ _) | (with_reducible refine Kd.C_drewN ?_ _) | (with_reducible refine Kd.C_drew ?_))); (case side4 => exact HC1_6.out); rintro e w' ⟨rfl, ⟨nd, rfl⟩⟩; (try first | exact ⟨rfl, _, World.drewN_drewN _ _ _⟩ | exact ⟨rfl, _, Eq.trans (World.drewN_drewN _ _ _) (congrArg (World.drewN _) (Nat.add_assoc _ _ _))⟩))))
    go_meet
    case rel => exact ⟨_, (true), (by first | rfl | (simp; done) | (simp [*]; done)), H', ⟨by first | omega | exact Nat.le_refl _⟩, ⟨by (with_reducible repeat (first | refine blk_drewN ?_ _ | refine blk_drew ?_ | refine blk_alloc ?_ _)); exact BK173.out⟩, ⟨by (with_reducible repeat (first | refine blk_drewN ?_ _ | refine blk_drew ?_ | refine blk_alloc ?_ _)); exact BK174.out⟩, ⟨by repeat (first | (with_reducible first | exact HB.out | apply bwA | apply bwN | apply bw1 | refine bwS ?_ GE173.out | refine bwS ?_ GE174.out) | exact HB.out)⟩⟩
 case rest =>
  clear HC3
  obtain ⟨kq, x45_2, rfl, HA, HJ2, BK173, BK174, HB⟩ := hcut
  cases kq with
  | zero => exact absurd HA.out (by simp [quarrellaw20_same.j0])
  | succ kj2 =>
   have H := HA.out
   clear HA
   simp only [quarrellaw20_same.j0] at H
   by_cases c33 : x45_2 = true
   ·subst c33
    have H1 : (some false) = some r := by rw [if_pos rfl] at H; exact H
    clear H
    have H := H1
    clear H1
    obtain rfl := Option.some.inj H
    go_wp2
    repeat (go_quiet (fail); try go_wp2)
    go_ret
    exact ⟨by first | rfl | (simp [errW_none, errW_some] <;> rfl) | (simp [*, errW_none, errW_some] <;> rfl), by repeat (first | (with_reducible first | exact HB.out | apply bwA | apply bwN | apply bw1 | refine bwS ?_ GE173.out | refine bwS ?_ GE174.out) | exact HB.out)⟩
   ·replace c33 := Bool.eq_false_iff.mpr c33
    subst c33
    have H1 : (quarrellaw20_same.l0 kj2 0 a0_0 a0_1 a0_2 a0_3 a0_4 a0_5 l0_6 l0_7 l0_8 l0_9 a1_0 a1_1 a1_2 a1_3 a1_4 a1_5 l1_6 l1_7 l1_8 l1_9) = some r := by rw [if_neg (show ¬ (false = true) by decide)] at H; exact H
    clear H
    have H := H1
    clear H1
    have H' := Aside0.mk H
    clear H
    go_wp2
    repeat (go_quiet (fail); try go_wp2)
    go_loopg [5] kj2 (fun kq v5 w' => ∃ (x5_2 : Int), v5 = .int .i64 x5_2 ∧ Aside0 (quarrellaw20_same.l0 kq x5_2 a0_0 a0_1 a0_2 a0_3 a0_4 a0_5 l0_6 l0_7 l0_8 l0_9 a1_0 a1_1 a1_2 a1_3 a1_4 a1_5 l1_6 l1_7 l1_8 l1_9 = some r) ∧ Aside0 (kq ≤ kj2) ∧ Aside0 (w'.heap[gb173]? = some (.cells #[.int .i64 a0_0, .int .i64 a0_1, .int .i64 a0_2, .int .i64 a0_3, .int .i64 a0_4, .int .i64 a0_5, (.slice A0_6 l0_6.length c0_6), (.slice A0_7 l0_7.length c0_7), (.slice A0_8 l0_8.length c0_8), (.slice A0_9 l0_9.length c0_9)] 30 (0, 0))) ∧ Aside0 (w'.heap[gb174]? = some (.cells #[.int .i64 a1_0, .int .i64 a1_1, .int .i64 a1_2, .int .i64 a1_3, .int .i64 a1_4, .int .i64 a1_5, (.slice A1_6 l1_6.length c1_6), (.slice A1_7 l1_7.length c1_7), (.slice A1_8 l1_8.length c1_8), (.slice A1_9 l1_9.length c1_9)] 34 (0, 0))) ∧ Aside0 (Below w.heap.size w w'))
    case atStart => exact ⟨(0), (by first | rfl | (simp; done) | (simp [*]; done)), H', ⟨Nat.le_refl _⟩, ⟨by (with_reducible repeat (first | refine blk_drewN ?_ _ | refine blk_drew ?_ | refine blk_alloc ?_ _)); exact BK173.out⟩, ⟨by (with_reducible repeat (first | refine blk_drewN ?_ _ | refine blk_drew ?_ | refine blk_alloc ?_ _)); exact BK174.out⟩, ⟨by repeat (first | (with_reducible first | exact HB.out | apply bwA | apply bwN | apply bw1 | refine bwS ?_ GE173.out | refine bwS ?_ GE174.out) | exact HB.out)⟩⟩
    case round =>
     clear H'
     try clear c33
     obtain ⟨x5_2, rfl, HA, HK2, BK173, BK174, HB⟩ := hrel
     cases gk with
     | zero => exact absurd HA.out (by simp [quarrellaw20_same.l0])
     | succ k2 =>
      have H := HA.out
      clear HA
      simp only [quarrellaw20_same.l0] at H
      by_cases c34 : x5_2 < (l0_8.length : Int)
      ·rw [if_pos c34] at H
       have c34b0 : decide (x5_2 < (l0_8.length : Int)) = true := decide_eq_true c34
       clear c34
       by_cases c35 : 0 ≤ x5_2
       ·rw [if_pos c35] at H
        have c35b0 : decide (0 ≤ x5_2) = true := decide_eq_true c35
        clear c35
        by_cases c36 : x5_2 < (l1_8.length : Int)
        ·rw [if_pos c36] at H
         have c36b0 : decide (x5_2 < (l1_8.length : Int)) = true := decide_eq_true c36
         clear c36
         by_cases c37 : ((rd_L7 l0_8 x5_2).length : Int) = ((rd_L7 l1_8 x5_2).length : Int)
         ·rw [if_pos c37] at H
          have c37b0 : (((rd_L7 l0_8 x5_2).length : Int) == ((rd_L7 l1_8 x5_2).length : Int)) = true := beq_iff_eq.mpr c37
          have c37b1 : (((rd_L7 l0_8 x5_2).length : Int) != ((rd_L7 l1_8 x5_2).length : Int)) = false := bne_eq_false_iff_eq.mpr c37
          have c37b2 : ((rd_L7 l0_8 x5_2).length == (rd_L7 l1_8 x5_2).length) = true := by first | simpa using c37 | (simp at c37 ⊢; omega)
          clear c37
          have H' := Aside0.mk H
          clear H
          have hnb38 := NB173_174.out
          have hnc38 := NB174_173.out
          obtain ⟨hcz39_0, hcz39_1, hcz39_2, hcz39_3, hcz39_4, hcz39_5, hcz39_6, hcz39_7, hcz39_8, hcz39_9, hfz39_0, hfz39_1, hfz39_2, hfz39_3, hfz39_4, hfz39_5, hfz39_6, hfz39_7, hfz39_8, hfz39_9⟩ := cf10 BK173.out
          have p177 : 0 ≤ (x5_2 : Int) := of_decide_eq_true (by first | (with_reducible assumption) | assumption)
          have q177 : x5_2 < (l0_8.length : Int) := of_decide_eq_true (by first | (with_reducible assumption) | assumption)
          obtain ⟨ad177, A177_0, c177_0, e177, hx177_0, hl177_0, hi177_0⟩ := at_L7 HR0_8.out x5_2 p177 q177
          cases e177
          replace hx177_0 := (HB.out.cell (World.block_lt_of_cell? w _ hx177_0)).trans hx177_0
          have HR177_0 := Aside0.mk hi177_0
          have HC177_0 := Aside0.mk hl177_0
          clear hi177_0 hl177_0
          replace p177 := eq_true p177
          replace q177 := eq_true q177
          obtain ⟨hcz40_0, hcz40_1, hcz40_2, hcz40_3, hcz40_4, hcz40_5, hcz40_6, hcz40_7, hcz40_8, hcz40_9, hfz40_0, hfz40_1, hfz40_2, hfz40_3, hfz40_4, hfz40_5, hfz40_6, hfz40_7, hfz40_8, hfz40_9⟩ := cf10 BK174.out
          have p178 : 0 ≤ (x5_2 : Int) := of_decide_eq_true (by first | (with_reducible assumption) | assumption)
          have q178 : x5_2 < (l1_8.length : Int) := of_decide_eq_true (by first | (with_reducible assumption) | assumption)
          obtain ⟨ad178, A178_0, c178_0, e178, hx178_0, hl178_0, hi178_0⟩ := at_L7 HR1_8.out x5_2 p178 q178
          cases e178
          replace hx178_0 := (HB.out.cell (World.block_lt_of_cell? w _ hx178_0)).trans hx178_0
          have HR178_0 := Aside0.mk hi178_0
          have HC178_0 := Aside0.mk hl178_0
          clear hi178_0 hl178_0
          replace p178 := eq_true p178
          replace q178 := eq_true q178
          go_wp2
          repeat (go_quiet (fail); try go_wp2)
          go_loopg [6] k2 (fun kq v6 w' => ∃ (x6_3 : Int), v6 = .int .i64 x6_3 ∧ Aside0 (quarrellaw20_same.l1 kq x5_2 x6_3 a0_0 a0_1 a0_2 a0_3 a0_4 a0_5 l0_6 l0_7 l0_8 l0_9 a1_0 a1_1 a1_2 a1_3 a1_4 a1_5 l1_6 l1_7 l1_8 l1_9 = some r) ∧ Aside0 (kq ≤ k2) ∧ Aside0 (w'.heap[gb173]? = some (.cells #[.int .i64 a0_0, .int .i64 a0_1, .int .i64 a0_2, .int .i64 a0_3, .int .i64 a0_4, .int .i64 a0_5, (.slice A0_6 l0_6.length c0_6), (.slice A0_7 l0_7.length c0_7), (.slice (some ad177) l0_8.length c0_8), (.slice A0_9 l0_9.length c0_9)] 30 (0, 0))) ∧ Aside0 (w'.heap[gb174]? = some (.cells #[.int .i64 a1_0, .int .i64 a1_1, .int .i64 a1_2, .int .i64 a1_3, .int .i64 a1_4, .int .i64 a1_5, (.slice A1_6 l1_6.length c1_6), (.slice A1_7 l1_7.length c1_7), (.slice (some ad178) l1_8.length c1_8), (.slice A1_9 l1_9.length c1_9)] 34 (0, 0))) ∧ Aside0 (Below w.heap.size w w'))
          case atStart => exact ⟨(0), (by first | rfl | (simp; done) | (simp [*]; done)), H', ⟨Nat.le_refl _⟩, ⟨by (with_reducible repeat (first | refine blk_drewN ?_ _ | refine blk_drew ?_ | refine blk_alloc ?_ _)); exact BK173.out⟩, ⟨by (with_reducible repeat (first | refine blk_drewN ?_ _ | refine blk_drew ?_ | refine blk_alloc ?_ _)); exact BK174.out⟩, ⟨by repeat (first | (with_reducible first | exact HB.out | apply bwA | apply bwN | apply bw1 | refine bwS ?_ GE173.out | refine bwS ?_ GE174.out) | exact HB.out)⟩⟩
          case round =>
           clear H'
           try clear c33
           try clear c34
           try clear c34b0
           try clear c35
           try clear c35b0
           try clear c36
           try clear c36b0
           try clear c37
           try clear c37b0
           try clear c37b1
           try clear c37b2
           try clear hcz39_0 hcz39_1 hcz39_2 hcz39_3 hcz39_4 hcz39_5 hcz39_6 hcz39_7 hcz39_8 hcz39_9
           try clear hcz40_0 hcz40_1 hcz40_2 hcz40_3 hcz40_4 hcz40_5 hcz40_6 hcz40_7 hcz40_8 hcz40_9
           try clear hfz39_0 hfz39_1 hfz39_2 hfz39_3 hfz39_4 hfz39_5 hfz39_6 hfz39_7 hfz39_8 hfz39_9
           try clear hfz40_0 hfz40_1 hfz40_2 hfz40_3 hfz40_4 hfz40_5 hfz40_6 hfz40_7 hfz40_8 hfz40_9
           try clear hx177_0
           try clear hx178_0
           try clear p177
           try clear p178
           try clear q177
           try clear q178
           obtain ⟨x6_3, rfl, HA, HK3, BK173, BK174, HB⟩ := hrel
           cases gk with
           | zero => exact absurd HA.out (by simp [quarrellaw20_same.l1])
           | succ k3 =>
            have H := HA.out
            clear HA
            simp only [quarrellaw20_same.l1] at H
            by_cases c41 : 0 ≤ x5_2
            ·rw [if_pos c41] at H
             have c41b0 : decide (0 ≤ x5_2) = true := decide_eq_true c41
             clear c41
             by_cases c42 : x5_2 < (l0_8.length : Int)
             ·rw [if_pos c42] at H
              have c42b0 : decide (x5_2 < (l0_8.length : Int)) = true := decide_eq_true c42
              clear c42
              by_cases c43 : x6_3 < ((rd_L7 l0_8 x5_2).length : Int)
              ·rw [if_pos c43] at H
               have c43b0 : decide (x6_3 < ((rd_L7 l0_8 x5_2).length : Int)) = true := decide_eq_true c43
               clear c43
               by_cases c44 : 0 ≤ x6_3
               ·rw [if_pos c44] at H
                have c44b0 : decide (0 ≤ x6_3) = true := decide_eq_true c44
                clear c44
                by_cases c45 : x5_2 < (l1_8.length : Int)
                ·rw [if_pos c45] at H
                 have c45b0 : decide (x5_2 < (l1_8.length : Int)) = true := decide_eq_true c45
                 clear c45
                 by_cases c46 : x6_3 < ((rd_L7 l1_8 x5_2).length : Int)
                 ·rw [if_pos c46] at H
                  have c46b0 : decide (x6_3 < ((rd_L7 l1_8 x5_2).length : Int)) = true := decide_eq_true c46
                  clear c46
                  replace H := Option.bind_eq_some_iff.mp H
                  obtain ⟨t184, A470, H⟩ := H
                  replace H : (if t184 = true then (quarrellaw20_same.l1 k3 x5_2 (wrap64 (x6_3 + 1)) a0_0 a0_1 a0_2 a0_3 a0_4 a0_5 l0_6 l0_7 l0_8 l0_9 a1_0 a1_1 a1_2 a1_3 a1_4 a1_5 l1_6 l1_7 l1_8 l1_9) else (some false)) = some r := H
                  have A47 := Aside0.mk A470
                  clear A470
                  by_cases c48 : t184 = true
                  ·subst c48
                   have H1 : (quarrellaw20_same.l1 k3 x5_2 (wrap64 (x6_3 + 1)) a0_0 a0_1 a0_2 a0_3 a0_4 a0_5 l0_6 l0_7 l0_8 l0_9 a1_0 a1_1 a1_2 a1_3 a1_4 a1_5 l1_6 l1_7 l1_8 l1_9) = some r := by rw [if_pos rfl] at H; exact H
                   clear H
                   have H := H1
                   clear H1
                   have H' := Aside0.mk H
                   clear H
                   have hnb49 := NB173_174.out
                   have hnc49 := NB174_173.out
                   obtain ⟨hcz50_0, hcz50_1, hcz50_2, hcz50_3, hcz50_4, hcz50_5, hcz50_6, hcz50_7, hcz50_8, hcz50_9, hfz50_0, hfz50_1, hfz50_2, hfz50_3, hfz50_4, hfz50_5, hfz50_6, hfz50_7, hfz50_8, hfz50_9⟩ := cf10 BK173.out
                   have p179 : 0 ≤ (x5_2 : Int) := of_decide_eq_true (by first | (with_reducible assumption) | assumption)
                   have q179 : x5_2 < (l0_8.length : Int) := of_decide_eq_true (by first | (with_reducible assumption) | assumption)
                   obtain ⟨ad179, A179_0, c179_0, e179, hx179_0, hl179_0, hi179_0⟩ := at_L7 HR0_8.out x5_2 p179 q179
                   obtain rfl : ad177 = ad179 := (by injection e179)
                   replace hx179_0 := (HB.out.cell (World.block_lt_of_cell? w _ hx179_0)).trans hx179_0
                   have HR179_0 := Aside0.mk hi179_0
                   have HC179_0 := Aside0.mk hl179_0
                   clear hi179_0 hl179_0
                   replace p179 := eq_true p179
                   replace q179 := eq_true q179
                   have p180 : 0 ≤ (x5_2 : Int) := of_decide_eq_true (by first | (with_reducible assumption) | assumption)
                   have q180 : x5_2 < (l0_8.length : Int) := of_decide_eq_true (by first | (with_reducible assumption) | assumption)
                   obtain ⟨ad180, A180_0, c180_0, e180, hx180_0, hl180_0, hi180_0⟩ := at_L7 HR0_8.out x5_2 p180 q180
                   obtain rfl : ad177 = ad180 := (by injection e180)
                   replace hx180_0 := (HB.out.cell (World.block_lt_of_cell? w _ hx180_0)).trans hx180_0
                   have HR180_0 := Aside0.mk hi180_0
                   have HC180_0 := Aside0.mk hl180_0
                   clear hi180_0 hl180_0
                   replace p180 := eq_true p180
                   replace q180 := eq_true q180
                   have ea_ := Option.some.inj (hx179_0.symm.trans hx180_0)
                   injection ea_ with ea_ en_ ec_
                   subst ea_
                   subst ec_
                   clear en_
                   have p181 : 0 ≤ (x6_3 : Int) := of_decide_eq_true (by first | (with_reducible assumption) | assumption)
                   have q181 : x6_3 < ((rd_L7 l0_8 x5_2).length : Int) := of_decide_eq_true (by first | (with_reducible assumption) | assumption)
                   obtain ⟨ad181, A181_0, c181_0, e181, hx181_0, hl181_0, hi181_0⟩ := at_L6 HR180_0.out x6_3 p181 q181
                   cases e181
                   replace hx181_0 := (HB.out.cell (World.block_lt_of_cell? w _ hx181_0)).trans hx181_0
                   have HR181_0 := Aside0.mk hi181_0
                   have HC181_0 := Aside0.mk hl181_0
                   clear hi181_0 hl181_0
                   replace p181 := eq_true p181
                   replace q181 := eq_true q181
                   obtain ⟨hcz51_0, hcz51_1, hcz51_2, hcz51_3, hcz51_4, hcz51_5, hcz51_6, hcz51_7, hcz51_8, hcz51_9, hfz51_0, hfz51_1, hfz51_2, hfz51_3, hfz51_4, hfz51_5, hfz51_6, hfz51_7, hfz51_8, hfz51_9⟩ := cf10 BK174.out
                   have p182 : 0 ≤ (x5_2 : Int) := of_decide_eq_true (by first | (with_reducible assumption) | assumption)
                   have q182 : x5_2 < (l1_8.length : Int) := of_decide_eq_true (by first | (with_reducible assumption) | assumption)
                   obtain ⟨ad182, A182_0, c182_0, e182, hx182_0, hl182_0, hi182_0⟩ := at_L7 HR1_8.out x5_2 p182 q182
                   obtain rfl : ad178 = ad182 := (by injection e182)
                   replace hx182_0 := (HB.out.cell (World.block_lt_of_cell? w _ hx182_0)).trans hx182_0
                   have HR182_0 := Aside0.mk hi182_0
                   have HC182_0 := Aside0.mk hl182_0
                   clear hi182_0 hl182_0
                   replace p182 := eq_true p182
                   replace q182 := eq_true q182
                   have p183 : 0 ≤ (x6_3 : Int) := of_decide_eq_true (by first | (with_reducible assumption) | assumption)
                   have q183 : x6_3 < ((rd_L7 l1_8 x5_2).length : Int) := of_decide_eq_true (by first | (with_reducible assumption) | assumption)
                   obtain ⟨ad183, A183_0, c183_0, e183, hx183_0, hl183_0, hi183_0⟩ := at_L6 HR182_0.out x6_3 p183 q183
                   cases e183
                   replace hx183_0 := (HB.out.cell (World.block_lt_of_cell? w _ hx183_0)).trans hx183_0
                   have HR183_0 := Aside0.mk hi183_0
                   have HC183_0 := Aside0.mk hl183_0
                   clear hi183_0 hl183_0
                   replace p183 := eq_true p183
                   replace q183 := eq_true q183
                   go_wp2_with (first | (go_at_call 29; (with_reducible refine (quarrelref11_Same.calls k3 _ _ (rd_L6 (rd_L7 l0_8 x5_2) x6_3) _ _ (rd_L6 (rd_L7 l1_8 x5_2) x6_3) true _ ?side1 ?side2 ?side3 ?side4 A47.out).mono ?_); (case side1 => repeat (first | exact (Kd.C_below HR181_0.out HB.out) | (with_reducible refine Kd.C_alloc ?_ _) | (with_reducible refine Kd.C_drewN ?_ _) | (with_reducible refine Kd.C_drew ?_))); (case side2 => exact HC181_0.out); (case side3 => repeat (first | exact (Kd.C_below HR183_0.out HB.out) | (with_reducible refine Kd.C_alloc ?_ _) | (with_reducible refine Kd.C_drewN ?_ _) | (with_reducible refine Kd.C_drew ?_))); (case side4 => exact HC183_0.out); rintro e w' ⟨rfl, ⟨nd, rfl⟩⟩; (try first | exact ⟨rfl, _, World.drewN_drewN _ _ _⟩ | exact ⟨rfl, _, Eq.trans (World.drewN_drewN _ _ _) (congrArg (World.drewN _) (Nat.add_assoc _ _ _))⟩)))
                   repeat (go_quiet (first | (go_at_call 29; (with_reducible refine (quarrelref11_Same.calls k3 _ _ (rd_L6 (rd_L7 l0_8 x5_2) x6_3) _ _ (rd_L6 (rd_L7 l1_8 x5_2) x6_3) true _ ?side1 ?side2 ?side3 ?side4 A47.out).mono ?_); (case side1 => repeat (first | exact (Kd.C_below HR181_0.out HB.out) | (with_reducible refine Kd.C_alloc ?_ _) | (with_reducible refine Kd.C_drewN ?_ _) | (with_reducible refine Kd.C_drew ?_))); (case side2 => exact HC181_0.out); (case side3 => repeat (first | exact (Kd.C_below HR183_0.out HB.out) | (with_reducible refine Kd.C_alloc ?_ _) | (with_reducible refine Kd.C_drewN ?_ _) | (with_reducible refine Kd.C_drew ?_))); (case side4 => exact HC183_0.out); rintro e w' ⟨rfl, ⟨nd, rfl⟩⟩; (try first | exact ⟨rfl, _, World.drewN_drewN _ _ _⟩ | exact ⟨rfl, _, Eq.trans (World.drewN_drewN _ _ _) (congrArg (World.drewN _) (Nat.add_assoc _ _ _))⟩))); try go_wp2_with (first | (go_at_call 29; (with_reducible refine (quarrelref11_Same.calls k3 _ _ (rd_L6 (rd_L7 l0_8 x5_2) x6_3) _ _ (rd_L6 (rd_L7 l1_8 x5_2) x6_3) true _ ?side1 ?side2 ?side3 ?side4 A47.out).mono ?_); (case side1 => repeat (first | exact (Kd.C_below HR181_0.out HB.out) | (with_reducible refine Kd.C_alloc ?_ _) | (with_reducible refine Kd.C_drewN ?_ _) | (with_reducible refine Kd.C_drew ?_))); (case side2 => exact HC181_0.out); (case side3 => repeat (first | exact (Kd.C_below HR183_0.out HB.out) | (with_reducible refine Kd.C_alloc ?_ _) | (with_reducible refine Kd.C_drewN ?_ _) | (with_reducible refine Kd.C_drew ?_))); (case side4 => exact HC183_0.out); rintro e w' ⟨rfl, ⟨nd, rfl⟩⟩; (try first | exact ⟨rfl, _, World.drewN_drewN _ _ _⟩ | exact ⟨rfl, _, Eq.trans (World.drewN_drewN _ _ _) (congrArg (World.drewN _) (Nat.add_assoc _ _ _))⟩))))
                   go_roundg k3
                   case measure => have := HJ2.out; have := HK2.out; have := HK3.out; omega
                   case rel => exact ⟨(wrap64 (x6_3 + 1)), (by first | rfl | (simp; done) | (simp [*]; done)), H', ⟨by have := HJ2.out; have := HK2.out; have := HK3.out; omega⟩, ⟨by (with_reducible repeat (first | refine blk_drewN ?_ _ | refine blk_drew ?_ | refine blk_alloc ?_ _)); exact BK173.out⟩, ⟨by (with_reducible repeat (first | refine blk_drewN ?_ _ | refine blk_drew ?_ | refine blk_alloc ?_ _)); exact BK174.out⟩, ⟨by repeat (first | (with_reducible first | exact HB.out | apply bwA | apply bwN | apply bw1 | refine bwS ?_ GE173.out | refine bwS ?_ GE174.out) | exact HB.out)⟩⟩
                  ·replace c48 := Bool.eq_false_iff.mpr c48
                   subst c48
                   have H1 : (some false) = some r := by rw [if_neg (show ¬ (false = true) by decide)] at H; exact H
                   clear H
                   have H := H1
                   clear H1
                   obtain rfl := Option.some.inj H
                   have hnb52 := NB173_174.out
                   have hnc52 := NB174_173.out
                   obtain ⟨hcz53_0, hcz53_1, hcz53_2, hcz53_3, hcz53_4, hcz53_5, hcz53_6, hcz53_7, hcz53_8, hcz53_9, hfz53_0, hfz53_1, hfz53_2, hfz53_3, hfz53_4, hfz53_5, hfz53_6, hfz53_7, hfz53_8, hfz53_9⟩ := cf10 BK173.out
                   have p179 : 0 ≤ (x5_2 : Int) := of_decide_eq_true (by first | (with_reducible assumption) | assumption)
                   have q179 : x5_2 < (l0_8.length : Int) := of_decide_eq_true (by first | (with_reducible assumption) | assumption)
                   obtain ⟨ad179, A179_0, c179_0, e179, hx179_0, hl179_0, hi179_0⟩ := at_L7 HR0_8.out x5_2 p179 q179
                   obtain rfl : ad177 = ad179 := (by injection e179)
                   replace hx179_0 := (HB.out.cell (World.block_lt_of_cell? w _ hx179_0)).trans hx179_0
                   have HR179_0 := Aside0.mk hi179_0
                   have HC179_0 := Aside0.mk hl179_0
                   clear hi179_0 hl179_0
                   replace p179 := eq_true p179
                   replace q179 := eq_true q179
                   have p180 : 0 ≤ (x5_2 : Int) := of_decide_eq_true (by first | (with_reducible assumption) | assumption)
                   have q180 : x5_2 < (l0_8.length : Int) := of_decide_eq_true (by first | (with_reducible assumption) | assumption)
                   obtain ⟨ad180, A180_0, c180_0, e180, hx180_0, hl180_0, hi180_0⟩ := at_L7 HR0_8.out x5_2 p180 q180
                   obtain rfl : ad177 = ad180 := (by injection e180)
                   replace hx180_0 := (HB.out.cell (World.block_lt_of_cell? w _ hx180_0)).trans hx180_0
                   have HR180_0 := Aside0.mk hi180_0
                   have HC180_0 := Aside0.mk hl180_0
                   clear hi180_0 hl180_0
                   replace p180 := eq_true p180
                   replace q180 := eq_true q180
                   have ea_ := Option.some.inj (hx179_0.symm.trans hx180_0)
                   injection ea_ with ea_ en_ ec_
                   subst ea_
                   subst ec_
                   clear en_
                   have p181 : 0 ≤ (x6_3 : Int) := of_decide_eq_true (by first | (with_reducible assumption) | assumption)
                   have q181 : x6_3 < ((rd_L7 l0_8 x5_2).length : Int) := of_decide_eq_true (by first | (with_reducible assumption) | assumption)
                   obtain ⟨ad181, A181_0, c181_0, e181, hx181_0, hl181_0, hi181_0⟩ := at_L6 HR180_0.out x6_3 p181 q181
                   cases e181
                   replace hx181_0 := (HB.out.cell (World.block_lt_of_cell? w _ hx181_0)).trans hx181_0
                   have HR181_0 := Aside0.mk hi181_0
                   have HC181_0 := Aside0.mk hl181_0
                   clear hi181_0 hl181_0
                   replace p181 := eq_true p181
                   replace q181 := eq_true q181
                   obtain ⟨hcz54_0, hcz54_1, hcz54_2, hcz54_3, hcz54_4, hcz54_5, hcz54_6, hcz54_7, hcz54_8, hcz54_9, hfz54_0, hfz54_1, hfz54_2, hfz54_3, hfz54_4, hfz54_5, hfz54_6, hfz54_7, hfz54_8, hfz54_9⟩ := cf10 BK174.out
                   have p182 : 0 ≤ (x5_2 : Int) := of_decide_eq_true (by first | (with_reducible assumption) | assumption)
                   have q182 : x5_2 < (l1_8.length : Int) := of_decide_eq_true (by first | (with_reducible assumption) | assumption)
                   obtain ⟨ad182, A182_0, c182_0, e182, hx182_0, hl182_0, hi182_0⟩ := at_L7 HR1_8.out x5_2 p182 q182
                   obtain rfl : ad178 = ad182 := (by injection e182)
                   replace hx182_0 := (HB.out.cell (World.block_lt_of_cell? w _ hx182_0)).trans hx182_0
                   have HR182_0 := Aside0.mk hi182_0
                   have HC182_0 := Aside0.mk hl182_0
                   clear hi182_0 hl182_0
                   replace p182 := eq_true p182
                   replace q182 := eq_true q182
                   have p183 : 0 ≤ (x6_3 : Int) := of_decide_eq_true (by first | (with_reducible assumption) | assumption)
                   have q183 : x6_3 < ((rd_L7 l1_8 x5_2).length : Int) := of_decide_eq_true (by first | (with_reducible assumption) | assumption)
                   obtain ⟨ad183, A183_0, c183_0, e183, hx183_0, hl183_0, hi183_0⟩ := at_L6 HR182_0.out x6_3 p183 q183
                   cases e183
                   replace hx183_0 := (HB.out.cell (World.block_lt_of_cell? w _ hx183_0)).trans hx183_0
                   have HR183_0 := Aside0.mk hi183_0
                   have HC183_0 := Aside0.mk hl183_0
                   clear hi183_0 hl183_0
                   replace p183 := eq_true p183
                   replace q183 := eq_true q183
                   go_wp2_with (first | (go_at_call 29; (with_reducible refine (quarrelref11_Same.calls k3 _ _ (rd_L6 (rd_L7 l0_8 x5_2) x6_3) _ _ (rd_L6 (rd_L7 l1_8 x5_2) x6_3) false _ ?side1 ?side2 ?side3 ?side4 A47.out).mono ?_); (case side1 => repeat (first | exact (Kd.C_below HR181_0.out HB.out) | (with_reducible refine Kd.C_alloc ?_ _) | (with_reducible refine Kd.C_drewN ?_ _) | (with_reducible refine Kd.C_drew ?_))); (case side2 => exact HC181_0.out); (case side3 => repeat (first | exact (Kd.C_below HR183_0.out HB.out) | (with_reducible refine Kd.C_alloc ?_ _) | (with_reducible refine Kd.C_drewN ?_ _) | (with_reducible refine Kd.C_drew ?_))); (case side4 => exact HC183_0.out); rintro e w' ⟨rfl, ⟨nd, rfl⟩⟩; (try first | exact ⟨rfl, _, World.drewN_drewN _ _ _⟩ | exact ⟨rfl, _, Eq.trans (World.drewN_drewN _ _ _) (congrArg (World.drewN _) (Nat.add_assoc _ _ _))⟩)))
                   repeat (go_quiet (first | (go_at_call 29; (with_reducible refine (quarrelref11_Same.calls k3 _ _ (rd_L6 (rd_L7 l0_8 x5_2) x6_3) _ _ (rd_L6 (rd_L7 l1_8 x5_2) x6_3) false _ ?side1 ?side2 ?side3 ?side4 A47.out).mono ?_); (case side1 => repeat (first | exact (Kd.C_below HR181_0.out HB.out) | (with_reducible refine Kd.C_alloc ?_ _) | (with_reducible refine Kd.C_drewN ?_ _) | (with_reducible refine Kd.C_drew ?_))); (case side2 => exact HC181_0.out); (case side3 => repeat (first | exact (Kd.C_below HR183_0.out HB.out) | (with_reducible refine Kd.C_alloc ?_ _) | (with_reducible refine Kd.C_drewN ?_ _) | (with_reducible refine Kd.C_drew ?_))); (case side4 => exact HC183_0.out); rintro e w' ⟨rfl, ⟨nd, rfl⟩⟩; (try first | exact ⟨rfl, _, World.drewN_drewN _ _ _⟩ | exact ⟨rfl, _, Eq.trans (World.drewN_drewN _ _ _) (congrArg (World.drewN _) (Nat.add_assoc _ _ _))⟩))); try go_wp2_with (first | (go_at_call 29; (with_reducible refine (quarrelref11_Same.calls k3 _ _ (rd_L6 (rd_L7 l0_8 x5_2) x6_3) _ _ (rd_L6 (rd_L7 l1_8 x5_2) x6_3) false _ ?side1 ?side2 ?side3 ?side4 A47.out).mono ?_); (case side1 => repeat (first | exact (Kd.C_below HR181_0.out HB.out) | (with_reducible refine Kd.C_alloc ?_ _) | (with_reducible refine Kd.C_drewN ?_ _) | (with_reducible refine Kd.C_drew ?_))); (case side2 => exact HC181_0.out); (case side3 => repeat (first | exact (Kd.C_below HR183_0.out HB.out) | (with_reducible refine Kd.C_alloc ?_ _) | (with_reducible refine Kd.C_drewN ?_ _) | (with_reducible refine Kd.C_drew ?_))); (case side4 => exact HC183_0.out); rintro e w' ⟨rfl, ⟨nd, rfl⟩⟩; (try first | exact ⟨rfl, _, World.drewN_drewN _ _ _⟩ | exact ⟨rfl, _, Eq.trans (World.drewN_drewN _ _ _) (congrArg (World.drewN _) (Nat.add_assoc _ _ _))⟩))))
                   go_ret
                   exact ⟨by first | rfl | (simp [errW_none, errW_some] <;> rfl) | (simp [*, errW_none, errW_some] <;> rfl), by repeat (first | (with_reducible first | exact HB.out | apply bwA | apply bwN | apply bw1 | refine bwS ?_ GE173.out | refine bwS ?_ GE174.out) | exact HB.out)⟩
                 ·rw [if_neg c46] at H
                  exact absurd H (by simp)
                ·rw [if_neg c45] at H
                 exact absurd H (by simp)
               ·rw [if_neg c44] at H
                exact absurd H (by simp)
              ·rw [if_neg c43] at H
               have c43b0 : decide (x6_3 < ((rd_L7 l0_8 x5_2).length : Int)) = false := decide_eq_false c43
               clear c43
               have H' := Aside0.mk H
               clear H
               have hnb55 := NB173_174.out
               have hnc55 := NB174_173.out
               obtain ⟨hcz56_0, hcz56_1, hcz56_2, hcz56_3, hcz56_4, hcz56_5, hcz56_6, hcz56_7, hcz56_8, hcz56_9, hfz56_0, hfz56_1, hfz56_2, hfz56_3, hfz56_4, hfz56_5, hfz56_6, hfz56_7, hfz56_8, hfz56_9⟩ := cf10 BK173.out
               have p179 : 0 ≤ (x5_2 : Int) := of_decide_eq_true (by first | (with_reducible assumption) | assumption)
               have q179 : x5_2 < (l0_8.length : Int) := of_decide_eq_true (by first | (with_reducible assumption) | assumption)
               obtain ⟨ad179, A179_0, c179_0, e179, hx179_0, hl179_0, hi179_0⟩ := at_L7 HR0_8.out x5_2 p179 q179
               obtain rfl : ad177 = ad179 := (by injection e179)
               replace hx179_0 := (HB.out.cell (World.block_lt_of_cell? w _ hx179_0)).trans hx179_0
               have HR179_0 := Aside0.mk hi179_0
               have HC179_0 := Aside0.mk hl179_0
               clear hi179_0 hl179_0
               replace p179 := eq_true p179
               replace q179 := eq_true q179
               go_wp2
               repeat (go_quiet (fail); try go_wp2)
               go_roundg k3
               case measure => have := HJ2.out; have := HK2.out; have := HK3.out; omega
               case rel => exact ⟨(wrap64 (x5_2 + 1)), (by first | rfl | (simp; done) | (simp [*]; done)), H', ⟨by have := HJ2.out; have := HK2.out; have := HK3.out; omega⟩, ⟨by (with_reducible repeat (first | refine blk_drewN ?_ _ | refine blk_drew ?_ | refine blk_alloc ?_ _)); exact BK173.out⟩, ⟨by (with_reducible repeat (first | refine blk_drewN ?_ _ | refine blk_drew ?_ | refine blk_alloc ?_ _)); exact BK174.out⟩, ⟨by repeat (first | (with_reducible first | exact HB.out | apply bwA | apply bwN | apply bw1 | refine bwS ?_ GE173.out | refine bwS ?_ GE174.out) | exact HB.out)⟩⟩
             ·rw [if_neg c42] at H
              exact absurd H (by simp)
            ·rw [if_neg c41] at H
             exact absurd H (by simp)
         ·rw [if_neg c37] at H
          have c37b0 : (((rd_L7 l0_8 x5_2).length : Int) == ((rd_L7 l1_8 x5_2).length : Int)) = false := beq_eq_false_iff_ne.mpr c37
          have c37b1 : (((rd_L7 l0_8 x5_2).length : Int) != ((rd_L7 l1_8 x5_2).length : Int)) = true := bne_iff_ne.mpr c37
          have c37b2 : ((rd_L7 l0_8 x5_2).length == (rd_L7 l1_8 x5_2).length) = false := by first | simpa using c37 | (simp at c37 ⊢; omega)
          obtain rfl := Option.some.inj H
          have hnb57 := NB173_174.out
          have hnc57 := NB174_173.out
          obtain ⟨hcz58_0, hcz58_1, hcz58_2, hcz58_3, hcz58_4, hcz58_5, hcz58_6, hcz58_7, hcz58_8, hcz58_9, hfz58_0, hfz58_1, hfz58_2, hfz58_3, hfz58_4, hfz58_5, hfz58_6, hfz58_7, hfz58_8, hfz58_9⟩ := cf10 BK173.out
          have p177 : 0 ≤ (x5_2 : Int) := of_decide_eq_true (by first | (with_reducible assumption) | assumption)
          have q177 : x5_2 < (l0_8.length : Int) := of_decide_eq_true (by first | (with_reducible assumption) | assumption)
          obtain ⟨ad177, A177_0, c177_0, e177, hx177_0, hl177_0, hi177_0⟩ := at_L7 HR0_8.out x5_2 p177 q177
          cases e177
          replace hx177_0 := (HB.out.cell (World.block_lt_of_cell? w _ hx177_0)).trans hx177_0
          have HR177_0 := Aside0.mk hi177_0
          have HC177_0 := Aside0.mk hl177_0
          clear hi177_0 hl177_0
          replace p177 := eq_true p177
          replace q177 := eq_true q177
          obtain ⟨hcz59_0, hcz59_1, hcz59_2, hcz59_3, hcz59_4, hcz59_5, hcz59_6, hcz59_7, hcz59_8, hcz59_9, hfz59_0, hfz59_1, hfz59_2, hfz59_3, hfz59_4, hfz59_5, hfz59_6, hfz59_7, hfz59_8, hfz59_9⟩ := cf10 BK174.out
          have p178 : 0 ≤ (x5_2 : Int) := of_decide_eq_true (by first | (with_reducible assumption) | assumption)
          have q178 : x5_2 < (l1_8.length : Int) := of_decide_eq_true (by first | (with_reducible assumption) | assumption)
          obtain ⟨ad178, A178_0, c178_0, e178, hx178_0, hl178_0, hi178_0⟩ := at_L7 HR1_8.out x5_2 p178 q178
          cases e178
          replace hx178_0 := (HB.out.cell (World.block_lt_of_cell? w _ hx178_0)).trans hx178_0
          have HR178_0 := Aside0.mk hi178_0
          have HC178_0 := Aside0.mk hl178_0
          clear hi178_0 hl178_0
          replace p178 := eq_true p178
          replace q178 := eq_true q178
          go_wp2
          repeat (go_quiet (fail); try go_wp2)
          go_ret
          exact ⟨by first | rfl | (simp [errW_none, errW_some] <;> rfl) | (simp [*, errW_none, errW_some] <;> rfl), by repeat (first | (with_reducible first | exact HB.out | apply bwA | apply bwN | apply bw1 | refine bwS ?_ GE173.out | refine bwS ?_ GE174.out) | exact HB.out)⟩
        ·rw [if_neg c36] at H
         exact absurd H (by simp)
       ·rw [if_neg c35] at H
        exact absurd H (by simp)
      ·rw [if_neg c34] at H
       have c34b0 : decide (x5_2 < (l0_8.length : Int)) = false := decide_eq_false c34
       clear c34
       obtain rfl := Option.some.inj H
       have hnb60 := NB173_174.out
       have hnc60 := NB174_173.out
       obtain ⟨hcz61_0, hcz61_1, hcz61_2, hcz61_3, hcz61_4, hcz61_5, hcz61_6, hcz61_7, hcz61_8, hcz61_9, hfz61_0, hfz61_1, hfz61_2, hfz61_3, hfz61_4, hfz61_5, hfz61_6, hfz61_7, hfz61_8, hfz61_9⟩ := cf10 BK173.out
       go_wp2
       repeat (go_quiet (fail); try go_wp2)
       go_ret
       exact ⟨by first | rfl | (simp [errW_none, errW_some] <;> rfl) | (simp [*, errW_none, errW_some] <;> rfl), by repeat (first | (with_reducible first | exact HB.out | apply bwA | apply bwN | apply bw1 | refine bwS ?_ GE173.out | refine bwS ?_ GE174.out) | exact HB.out)⟩
end Go.Proofs.Ythfkgnkojhocbaa.S
end
section
namespace Go.Proofs.Ythfkgnkojhocbaa.S
open Go.RowKit Go.Proofs.YthfkgnkojhocbaaW.PrintWords Go.Proofs.YthfkgnkojhocbaaW.PrintLast Go.Proofs.YthfkgnkojhocbaaW.PrintMore
attribute [local go_sem] max2_int min2_int max_two min_two max_three min_three max_four min_four
set_option linter.unusedVariables false
set_option linter.unusedSimpArgs false
mutual
def quarrellaw16_Great.j0 : Nat → Bool → Int → Int → Int → Int → Int → Int → List Int → List Int → List (List (List (S80))) → Option (Int)
  | 0, _, _, _, _, _, _, _, _, _, _ => none
  | k + 1, x20, x236000, x236001, x236002, x236003, x236004, x236005, x236006, x236007, x236008 => if x20 = true then (some 1) else (quarrellaw16_Great.l0 k 0 x236000 x236001 x236002 x236003 x236004 x236005 x236006 x236007 x236008)
def quarrellaw16_Great.l0 : Nat → Int → Int → Int → Int → Int → Int → Int → List Int → List Int → List (List (List (S80))) → Option (Int)
  | 0, _, _, _, _, _, _, _, _, _, _ => none
  | k + 1, x3, x236000, x236001, x236002, x236003, x236004, x236005, x236006, x236007, x236008 => if x3 < (x236008.length : Int) then (if 0 ≤ x3 then (if ((rd_L7 x236008 x3).length : Int) > 20 then (some 1) else (quarrellaw16_Great.l1 k x3 0 x236000 x236001 x236002 x236003 x236004 x236005 x236006 x236007 x236008)) else (none)) else (some 0)
def quarrellaw16_Great.l1 : Nat → Int → Int → Int → Int → Int → Int → Int → Int → List Int → List Int → List (List (List (S80))) → Option (Int)
  | 0, _, _, _, _, _, _, _, _, _, _, _ => none
  | k + 1, x3, x4, x236000, x236001, x236002, x236003, x236004, x236005, x236006, x236007, x236008 => if 0 ≤ x3 then (if x3 < (x236008.length : Int) then (if x4 < ((rd_L7 x236008 x3).length : Int) then (if 0 ≤ x4 then (if ((rd_L6 (rd_L7 x236008 x3) x4).length : Int) > 20 then (some 1) else (quarrellaw16_Great.l1 k x3 (wrap64 (x4 + 1)) x236000 x236001 x236002 x236003 x236004 x236005 x236006 x236007 x236008)) else (none)) else (quarrellaw16_Great.l0 k (wrap64 (x3 + 1)) x236000 x236001 x236002 x236003 x236004 x236005 x236006 x236007 x236008)) else (none)) else (none)
end
def quarrellaw16_Great.f (k : Nat) (a0_0 : Int) (a0_1 : Int) (a0_2 : Int) (a0_3 : Int) (a0_4 : Int) (a0_5 : Int) (l0_6 : List Int) (l0_7 : List Int) (l0_8 : List (List (List (S80)))) : Option (Int) := if (l0_6.length : Int) > 20 then (quarrellaw16_Great.j0 k true a0_0 a0_1 a0_2 a0_3 a0_4 a0_5 l0_6 l0_7 l0_8) else (if (l0_7.length : Int) > 50 then (quarrellaw16_Great.j0 k true a0_0 a0_1 a0_2 a0_3 a0_4 a0_5 l0_6 l0_7 l0_8) else (quarrellaw16_Great.j0 k (decide ((l0_8.length : Int) > 10)) a0_0 a0_1 a0_2 a0_3 a0_4 a0_5 l0_6 l0_7 l0_8))
theorem quarrellaw16_Great.mono_l : ∀ k, (∀ y0 y1 y2 y3 y4 y5 y6 y7 y8 y9, LeO (quarrellaw16_Great.j0 k y0 y1 y2 y3 y4 y5 y6 y7 y8 y9) (quarrellaw16_Great.j0 (k + 1) y0 y1 y2 y3 y4 y5 y6 y7 y8 y9)) ∧ (∀ y0 y1 y2 y3 y4 y5 y6 y7 y8 y9, LeO (quarrellaw16_Great.l0 k y0 y1 y2 y3 y4 y5 y6 y7 y8 y9) (quarrellaw16_Great.l0 (k + 1) y0 y1 y2 y3 y4 y5 y6 y7 y8 y9)) ∧ (∀ y0 y1 y2 y3 y4 y5 y6 y7 y8 y9 y10, LeO (quarrellaw16_Great.l1 k y0 y1 y2 y3 y4 y5 y6 y7 y8 y9 y10) (quarrellaw16_Great.l1 (k + 1) y0 y1 y2 y3 y4 y5 y6 y7 y8 y9 y10))
  | 0 => ⟨fun _ _ _ _ _ _ _ _ _ _ r h => by simp [quarrellaw16_Great.j0] at h, fun _ _ _ _ _ _ _ _ _ _ r h => by simp [quarrellaw16_Great.l0] at h, fun _ _ _ _ _ _ _ _ _ _ _ r h => by simp [quarrellaw16_Great.l1] at h⟩
  | k + 1 => by
    obtain ⟨ih0, ih1, ih2⟩ := quarrellaw16_Great.mono_l k
    refine ⟨?_, ?_, ?_⟩
    · intro y0 y1 y2 y3 y4 y5 y6 y7 y8 y9
      unfold quarrellaw16_Great.j0
      repeat' first
      | (with_reducible exact ih0 _ _ _ _ _ _ _ _ _ _)
      | (with_reducible exact ih1 _ _ _ _ _ _ _ _ _ _)
      | (with_reducible exact ih2 _ _ _ _ _ _ _ _ _ _ _)
      | (with_reducible exact LeO.refl _)
      | (with_reducible exact LeO.none _)
      | (with_reducible refine LeO.ite ?_ ?_)
      | (with_reducible refine LeO.bind ?_ (fun _ => ?_))
      | exact ih0 _ _ _ _ _ _ _ _ _ _
      | exact ih1 _ _ _ _ _ _ _ _ _ _
      | exact ih2 _ _ _ _ _ _ _ _ _ _ _
      | exact LeO.none _
      | refine LeO.ite ?_ ?_
      | refine LeO.bind ?_ (fun _ => ?_)
    · intro y0 y1 y2 y3 y4 y5 y6 y7 y8 y9
      unfold quarrellaw16_Great.l0
      repeat' first
      | (with_reducible exact ih0 _ _ _ _ _ _ _ _ _ _)
      | (with_reducible exact ih1 _ _ _ _ _ _ _ _ _ _)
      | (with_reducible exact ih2 _ _ _ _ _ _ _ _ _ _ _)
      | (with_reducible exact LeO.refl _)
      | (with_reducible exact LeO.none _)
      | (with_reducible refine LeO.ite ?_ ?_)
      | (with_reducible refine LeO.bind ?_ (fun _ => ?_))
      | exact ih0 _ _ _ _ _ _ _ _ _ _
      | exact ih1 _ _ _ _ _ _ _ _ _ _
      | exact ih2 _ _ _ _ _ _ _ _ _ _ _
      | exact LeO.none _
      | refine LeO.ite ?_ ?_
      | refine LeO.bind ?_ (fun _ => ?_)
    · intro y0 y1 y2 y3 y4 y5 y6 y7 y8 y9 y10
      unfold quarrellaw16_Great.l1
      repeat' first
      | (with_reducible exact ih0 _ _ _ _ _ _ _ _ _ _)
      | (with_reducible exact ih1 _ _ _ _ _ _ _ _ _ _)
      | (with_reducible exact ih2 _ _ _ _ _ _ _ _ _ _ _)
      | (with_reducible exact LeO.refl _)
      | (with_reducible exact LeO.none _)
      | (with_reducible refine LeO.ite ?_ ?_)
      | (with_reducible refine LeO.bind ?_ (fun _ => ?_))
      | exact ih0 _ _ _ _ _ _ _ _ _ _
      | exact ih1 _ _ _ _ _ _ _ _ _ _
      | exact ih2 _ _ _ _ _ _ _ _ _ _ _
      | exact LeO.none _
      | refine LeO.ite ?_ ?_
      | refine LeO.bind ?_ (fun _ => ?_)
theorem quarrellaw16_Great.mono : ∀ a0 a1 a2 a3 a4 a5 a6 a7 a8 k, LeO (quarrellaw16_Great.f k a0 a1 a2 a3 a4 a5 a6 a7 a8) (quarrellaw16_Great.f (k + 1) a0 a1 a2 a3 a4 a5 a6 a7 a8) := by
  intro a0 a1 a2 a3 a4 a5 a6 a7 a8 k
  obtain ⟨ih0, ih1, ih2⟩ := quarrellaw16_Great.mono_l k
  unfold quarrellaw16_Great.f
  repeat' first
      | (with_reducible exact ih0 _ _ _ _ _ _ _ _ _ _)
      | (with_reducible exact ih1 _ _ _ _ _ _ _ _ _ _)
      | (with_reducible exact ih2 _ _ _ _ _ _ _ _ _ _ _)
      | (with_reducible exact LeO.refl _)
      | (with_reducible exact LeO.none _)
      | (with_reducible refine LeO.ite ?_ ?_)
      | (with_reducible refine LeO.bind ?_ (fun _ => ?_))
      | exact ih0 _ _ _ _ _ _ _ _ _ _
      | exact ih1 _ _ _ _ _ _ _ _ _ _
      | exact ih2 _ _ _ _ _ _ _ _ _ _ _
      | exact LeO.none _
      | refine LeO.ite ?_ ?_
      | refine LeO.bind ?_ (fun _ => ?_)
set_option maxHeartbeats 8000000 in
set_option maxRecDepth 100000 in
theorem quarrellaw16_Great.calls (k : Nat) (a0_0 : Int) (a0_1 : Int) (a0_2 : Int) (a0_3 : Int) (a0_4 : Int) (a0_5 : Int) (A0_6 : Option Addr) (c0_6 : Nat) (l0_6 : List Int) (A0_7 : Option Addr) (c0_7 : Nat) (l0_7 : List Int) (A0_8 : Option Addr) (c0_8 : Nat) (l0_8 : List (List (List (S80)))) (r : Int) (w : World) (hr0_6 : Kd.C (Kd.int .i64) w A0_6 l0_6.length l0_6) (hc0_6 : l0_6.length ≤ c0_6) (hr0_7 : Kd.C (Kd.int .u8) w A0_7 l0_7.length l0_7) (hc0_7 : l0_7.length ≤ c0_7) (hr0_8 : Kd.C (Kd.slice 61 (Kd.slice 80 k80)) w A0_8 l0_8.length l0_8) (hc0_8 : l0_8.length ≤ c0_8) (h : quarrellaw16_Great.f k a0_0 a0_1 a0_2 a0_3 a0_4 a0_5 l0_6 l0_7 l0_8 = some r) :
  Calls Try.prog 30 #[.agg #[.int .i64 a0_0, .int .i64 a0_1, .int .i64 a0_2, .int .i64 a0_3, .int .i64 a0_4, .int .i64 a0_5, .slice A0_6 l0_6.length c0_6, .slice A0_7 l0_7.length c0_7, .slice A0_8 l0_8.length c0_8]] w fun e w' => e = .returned (.int .i64 r) ∧ Below w.heap.size w w' := by
 have hu68 := Try.underlying68
 have HR0_6 := Aside0.mk hr0_6
 have HC0_6 := Aside0.mk hc0_6
 clear hr0_6 hc0_6
 have HR0_7 := Aside0.mk hr0_7
 have HC0_7 := Aside0.mk hc0_7
 clear hr0_7 hc0_7
 have HR0_8 := Aside0.mk hr0_8
 have HC0_8 := Aside0.mk hc0_8
 clear hr0_8 hc0_8
 have HB := Aside0.mk (Below.refl w.heap.size w)
 have H : (if (l0_6.length : Int) > 20 then (quarrellaw16_Great.j0 k true a0_0 a0_1 a0_2 a0_3 a0_4 a0_5 l0_6 l0_7 l0_8) else (if (l0_7.length : Int) > 50 then (quarrellaw16_Great.j0 k true a0_0 a0_1 a0_2 a0_3 a0_4 a0_5 l0_6 l0_7 l0_8) else (quarrellaw16_Great.j0 k (decide ((l0_8.length : Int) > 10)) a0_0 a0_1 a0_2 a0_3 a0_4 a0_5 l0_6 l0_7 l0_8))) = some r := h
 clear h
 have HC2 := Aside0.mk H
 clear H
 go_enter Try.func30, Try.ntmps30
 go_upto_region 1 with (first | ((with_reducible refine gate_dst (N := 1) rfl ?_); (try (refine gate_guard (by rfl) ?_; dsimp only)); refine box_event ?hg (N := 1) ?hd (cs := #[.int .i64 a0_0, .int .i64 a0_1, .int .i64 a0_2, .int .i64 a0_3, .int .i64 a0_4, .int .i64 a0_5, .slice A0_6 l0_6.length c0_6, .slice A0_7 l0_7.length c0_7, .slice A0_8 l0_8.length c0_8]) (t := 68) ?hr ?_; (case hd => rfl); (case hg => rfl); (case hr => first | (go_simp; done) | (go_simp; rfl)); intro gb235 hg w3 hbox hb; have n0_ := Aside0.mk (below_step (by repeat (first | (with_reducible first | exact HB.out | apply bwA | apply bwN | apply bw1) | exact HB.out)) hb); have n1_ := Aside0.mk (hbox); have n2_ := Aside0.mk ((by rw [hg]; exact (below_size (by repeat (first | (with_reducible first | exact HB.out | apply bwA | apply bwN | apply bw1) | exact HB.out))) : w.heap.size ≤ gb235)); have n3_ := Aside0.mk ((by rw [hg]; exact (below_size (by repeat (first | (with_reducible first | exact HB.out | apply bwA | apply bwN | apply bw1) | exact HB.out))) : w.heap.size ≤ gb235)); clear HB; have HB := n0_; have BK235 := n1_; have GW235 := n2_; have GE235 := n3_; clear n0_ n1_ n2_ n3_; clear hb hbox hg))
 (try simp only [Act.put, List.setIfInBounds_toArray, List.set_cons_zero, List.set_cons_succ])
 go_cut [20] (fun v20 wc => ∃ (kq : Nat) (x20_1 : Bool), v20 = .bool x20_1 ∧ Aside0 (quarrellaw16_Great.j0 kq x20_1 a0_0 a0_1 a0_2 a0_3 a0_4 a0_5 l0_6 l0_7 l0_8 = some r) ∧ Aside0 (kq ≤ k) ∧ Aside0 (wc.heap[gb235]? = some (.cells #[.int .i64 a0_0, .int .i64 a0_1, .int .i64 a0_2, .int .i64 a0_3, .int .i64 a0_4, .int .i64 a0_5, (.slice A0_6 l0_6.length c0_6), (.slice A0_7 l0_7.length c0_7), (.slice A0_8 l0_8.length c0_8)] 68 (0, 0))) ∧ Aside0 (Below w.heap.size w wc))
 case first =>
  have H := HC2.out
  clear HC2
  by_cases c4 : (l0_6.length : Int) > 20
  ·rw [if_pos c4] at H
   have c4b0 : decide (20 < (l0_6.length : Int)) = true := decide_eq_true c4
   have c4b1 : decide (20 < l0_6.length) = true := decide_eq_true (by omega)
   clear c4
   (first | rw [c4b0] | (simp only [i64_w, i32_w]; rw [c4b0]) | skip)
   have H' := Aside0.mk H
   clear H
   have hcz5_0 : w3.cell? ⟨gb235, 0, none⟩ = some (.int .i64 a0_0) := (blk_cell BK235.out 0).trans rfl
   have hcz5_1 : w3.cell? ⟨gb235, 1, none⟩ = some (.int .i64 a0_1) := (blk_cell BK235.out 1).trans rfl
   have hcz5_2 : w3.cell? ⟨gb235, 2, none⟩ = some (.int .i64 a0_2) := (blk_cell BK235.out 2).trans rfl
   have hcz5_3 : w3.cell? ⟨gb235, 3, none⟩ = some (.int .i64 a0_3) := (blk_cell BK235.out 3).trans rfl
   have hcz5_4 : w3.cell? ⟨gb235, 4, none⟩ = some (.int .i64 a0_4) := (blk_cell BK235.out 4).trans rfl
   have hcz5_5 : w3.cell? ⟨gb235, 5, none⟩ = some (.int .i64 a0_5) := (blk_cell BK235.out 5).trans rfl
   have hcz5_6 : w3.cell? ⟨gb235, 6, none⟩ = some (.slice A0_6 l0_6.length c0_6) := (blk_cell BK235.out 6).trans rfl
   have hcz5_7 : w3.cell? ⟨gb235, 7, none⟩ = some (.slice A0_7 l0_7.length c0_7) := (blk_cell BK235.out 7).trans rfl
   have hcz5_8 : w3.cell? ⟨gb235, 8, none⟩ = some (.slice A0_8 l0_8.length c0_8) := (blk_cell BK235.out 8).trans rfl
   have hfz5_0 := blk_frozen BK235.out 0
   have hfz5_1 := blk_frozen BK235.out 1
   have hfz5_2 := blk_frozen BK235.out 2
   have hfz5_3 := blk_frozen BK235.out 3
   have hfz5_4 := blk_frozen BK235.out 4
   have hfz5_5 := blk_frozen BK235.out 5
   have hfz5_6 := blk_frozen BK235.out 6
   have hfz5_7 := blk_frozen BK235.out 7
   have hfz5_8 := blk_frozen BK235.out 8
   go_wp2
   go_meet
   case rel => exact ⟨_, (true), (by first | rfl | (simp; done) | (simp [*]; done)), H', ⟨by first | omega | exact Nat.le_refl _⟩, ⟨by (with_reducible repeat (first | refine blk_drewN ?_ _ | refine blk_drew ?_ | refine blk_alloc ?_ _)); exact BK235.out⟩, ⟨by repeat (first | (with_reducible first | exact HB.out | apply bwA | apply bwN | apply bw1 | refine bwS ?_ GE235.out) | exact HB.out)⟩⟩
  ·rw [if_neg c4] at H
   have c4b0 : decide (20 < (l0_6.length : Int)) = false := decide_eq_false c4
   have c4b1 : decide (20 < l0_6.length) = false := decide_eq_false (by omega)
   clear c4
   (first | rw [c4b0] | (simp only [i64_w, i32_w]; rw [c4b0]) | skip)
   by_cases c6 : (l0_7.length : Int) > 50
   ·rw [if_pos c6] at H
    have c6b0 : decide (50 < (l0_7.length : Int)) = true := decide_eq_true c6
    have c6b1 : decide (50 < l0_7.length) = true := decide_eq_true (by omega)
    clear c6
    have H' := Aside0.mk H
    clear H
    have hcz7_0 : w3.cell? ⟨gb235, 0, none⟩ = some (.int .i64 a0_0) := (blk_cell BK235.out 0).trans rfl
    have hcz7_1 : w3.cell? ⟨gb235, 1, none⟩ = some (.int .i64 a0_1) := (blk_cell BK235.out 1).trans rfl
    have hcz7_2 : w3.cell? ⟨gb235, 2, none⟩ = some (.int .i64 a0_2) := (blk_cell BK235.out 2).trans rfl
    have hcz7_3 : w3.cell? ⟨gb235, 3, none⟩ = some (.int .i64 a0_3) := (blk_cell BK235.out 3).trans rfl
    have hcz7_4 : w3.cell? ⟨gb235, 4, none⟩ = some (.int .i64 a0_4) := (blk_cell BK235.out 4).trans rfl
    have hcz7_5 : w3.cell? ⟨gb235, 5, none⟩ = some (.int .i64 a0_5) := (blk_cell BK235.out 5).trans rfl
    have hcz7_6 : w3.cell? ⟨gb235, 6, none⟩ = some (.slice A0_6 l0_6.length c0_6) := (blk_cell BK235.out 6).trans rfl
    have hcz7_7 : w3.cell? ⟨gb235, 7, none⟩ = some (.slice A0_7 l0_7.length c0_7) := (blk_cell BK235.out 7).trans rfl
    have hcz7_8 : w3.cell? ⟨gb235, 8, none⟩ = some (.slice A0_8 l0_8.length c0_8) := (blk_cell BK235.out 8).trans rfl
    have hfz7_0 := blk_frozen BK235.out 0
    have hfz7_1 := blk_frozen BK235.out 1
    have hfz7_2 := blk_frozen BK235.out 2
    have hfz7_3 := blk_frozen BK235.out 3
    have hfz7_4 := blk_frozen BK235.out 4
    have hfz7_5 := blk_frozen BK235.out 5
    have hfz7_6 := blk_frozen BK235.out 6
    have hfz7_7 := blk_frozen BK235.out 7
    have hfz7_8 := blk_frozen BK235.out 8
    go_wp2
    go_meet
    case rel => exact ⟨_, (true), (by first | rfl | (simp; done) | (simp [*]; done)), H', ⟨by first | omega | exact Nat.le_refl _⟩, ⟨by (with_reducible repeat (first | refine blk_drewN ?_ _ | refine blk_drew ?_ | refine blk_alloc ?_ _)); exact BK235.out⟩, ⟨by repeat (first | (with_reducible first | exact HB.out | apply bwA | apply bwN | apply bw1 | refine bwS ?_ GE235.out) | exact HB.out)⟩⟩
   ·rw [if_neg c6] at H
    have c6b0 : decide (50 < (l0_7.length : Int)) = false := decide_eq_false c6
    have c6b1 : decide (50 < l0_7.length) = false := decide_eq_false (by omega)
    clear c6
    have H' := Aside0.mk H
    clear H
    have hcz8_0 : w3.cell? ⟨gb235, 0, none⟩ = some (.int .i64 a0_0) := (blk_cell BK235.out 0).trans rfl
    have hcz8_1 : w3.cell? ⟨gb235, 1, none⟩ = some (.int .i64 a0_1) := (blk_cell BK235.out 1).trans rfl
    have hcz8_2 : w3.cell? ⟨gb235, 2, none⟩ = some (.int .i64 a0_2) := (blk_cell BK235.out 2).trans rfl
    have hcz8_3 : w3.cell? ⟨gb235, 3, none⟩ = some (.int .i64 a0_3) := (blk_cell BK235.out 3).trans rfl
    have hcz8_4 : w3.cell? ⟨gb235, 4, none⟩ = some (.int .i64 a0_4) := (blk_cell BK235.out 4).trans rfl
    have hcz8_5 : w3.cell? ⟨gb235, 5, none⟩ = some (.int .i64 a0_5) := (blk_cell BK235.out 5).trans rfl
    have hcz8_6 : w3.cell? ⟨gb235, 6, none⟩ = some (.slice A0_6 l0_6.length c0_6) := (blk_cell BK235.out 6).trans rfl
    have hcz8_7 : w3.cell? ⟨gb235, 7, none⟩ = some (.slice A0_7 l0_7.length c0_7) := (blk_cell BK235.out 7).trans rfl
    have hcz8_8 : w3.cell? ⟨gb235, 8, none⟩ = some (.slice A0_8 l0_8.length c0_8) := (blk_cell BK235.out 8).trans rfl
    have hfz8_0 := blk_frozen BK235.out 0
    have hfz8_1 := blk_frozen BK235.out 1
    have hfz8_2 := blk_frozen BK235.out 2
    have hfz8_3 := blk_frozen BK235.out 3
    have hfz8_4 := blk_frozen BK235.out 4
    have hfz8_5 := blk_frozen BK235.out 5
    have hfz8_6 := blk_frozen BK235.out 6
    have hfz8_7 := blk_frozen BK235.out 7
    have hfz8_8 := blk_frozen BK235.out 8
    go_wp2
    go_meet
    case rel => exact ⟨_, (decide ((l0_8.length : Int) > 10)), (by first | rfl | (simp; done) | (simp [*]; done)), H', ⟨by first | omega | exact Nat.le_refl _⟩, ⟨by (with_reducible repeat (first | refine blk_drewN ?_ _ | refine blk_drew ?_ | refine blk_alloc ?_ _)); exact BK235.out⟩, ⟨by repeat (first | (with_reducible first | exact HB.out | apply bwA | apply bwN | apply bw1 | refine bwS ?_ GE235.out) | exact HB.out)⟩⟩
 case rest =>
  clear HC2
  obtain ⟨kq, x20_1, rfl, HA, HJ1, BK235, HB⟩ := hcut
  cases kq with
  | zero => exact absurd HA.out (by simp [quarrellaw16_Great.j0])
  | succ kj1 =>
   have H := HA.out
   clear HA
   simp only [quarrellaw16_Great.j0] at H
   by_cases c9 : x20_1 = true
   ·subst c9
    have H1 : (some 1) = some r := by rw [if_pos rfl] at H; exact H
    clear H
    have H := H1
    clear H1
    obtain rfl := Option.some.inj H
    go_wp2
    go_ret
    exact ⟨by first | rfl | (simp [errW_none, errW_some] <;> rfl) | (simp [*, errW_none, errW_some] <;> rfl), by repeat (first | (with_reducible first | exact HB.out | apply bwA | apply bwN | apply bw1 | refine bwS ?_ GE235.out) | exact HB.out)⟩
   ·replace c9 := Bool.eq_false_iff.mpr c9
    subst c9
    have H1 : (quarrellaw16_Great.l0 kj1 0 a0_0 a0_1 a0_2 a0_3 a0_4 a0_5 l0_6 l0_7 l0_8) = some r := by rw [if_neg (show ¬ (false = true) by decide)] at H; exact H
    clear H
    have H := H1
    clear H1
    have H' := Aside0.mk H
    clear H
    go_wp2
    go_loopg [3] kj1 (fun kq v3 w' => ∃ (x3_2 : Int), v3 = .int .i64 x3_2 ∧ Aside0 (quarrellaw16_Great.l0 kq x3_2 a0_0 a0_1 a0_2 a0_3 a0_4 a0_5 l0_6 l0_7 l0_8 = some r) ∧ Aside0 (kq ≤ kj1) ∧ Aside0 (w'.heap[gb235]? = some (.cells #[.int .i64 a0_0, .int .i64 a0_1, .int .i64 a0_2, .int .i64 a0_3, .int .i64 a0_4, .int .i64 a0_5, (.slice A0_6 l0_6.length c0_6), (.slice A0_7 l0_7.length c0_7), (.slice A0_8 l0_8.length c0_8)] 68 (0, 0))) ∧ Aside0 (Below w.heap.size w w'))
    case atStart => exact ⟨(0), (by first | rfl | (simp; done) | (simp [*]; done)), H', ⟨Nat.le_refl _⟩, ⟨by (with_reducible repeat (first | refine blk_drewN ?_ _ | refine blk_drew ?_ | refine blk_alloc ?_ _)); exact BK235.out⟩, ⟨by repeat (first | (with_reducible first | exact HB.out | apply bwA | apply bwN | apply bw1 | refine bwS ?_ GE235.out) | exact HB.out)⟩⟩
    case round =>
     clear H'
     try clear c9
     obtain ⟨x3_2, rfl, HA, HK2, BK235, HB⟩ := hrel
     cases gk with
     | zero => exact absurd HA.out (by simp [quarrellaw16_Great.l0])
     | succ k2 =>
      have H := HA.out
      clear HA
      simp only [quarrellaw16_Great.l0] at H
      by_cases c10 : x3_2 < (l0_8.length : Int)
      ·rw [if_pos c10] at H
       have c10b0 : decide (x3_2 < (l0_8.length : Int)) = true := decide_eq_true c10
       clear c10
       by_cases c11 : 0 ≤ x3_2
       ·rw [if_pos c11] at H
        have c11b0 : decide (0 ≤ x3_2) = true := decide_eq_true c11
        clear c11
        by_cases c12 : ((rd_L7 l0_8 x3_2).length : Int) > 20
        ·rw [if_pos c12] at H
         have c12b0 : decide (20 < ((rd_L7 l0_8 x3_2).length : Int)) = true := decide_eq_true c12
         have c12b1 : decide (20 < (rd_L7 l0_8 x3_2).length) = true := decide_eq_true (by omega)
         clear c12
         obtain rfl := Option.some.inj H
         have hcz13_0 : wr.cell? ⟨gb235, 0, none⟩ = some (.int .i64 a0_0) := (blk_cell BK235.out 0).trans rfl
         have hcz13_1 : wr.cell? ⟨gb235, 1, none⟩ = some (.int .i64 a0_1) := (blk_cell BK235.out 1).trans rfl
         have hcz13_2 : wr.cell? ⟨gb235, 2, none⟩ = some (.int .i64 a0_2) := (blk_cell BK235.out 2).trans rfl
         have hcz13_3 : wr.cell? ⟨gb235, 3, none⟩ = some (.int .i64 a0_3) := (blk_cell BK235.out 3).trans rfl
         have hcz13_4 : wr.cell? ⟨gb235, 4, none⟩ = some (.int .i64 a0_4) := (blk_cell BK235.out 4).trans rfl
         have hcz13_5 : wr.cell? ⟨gb235, 5, none⟩ = some (.int .i64 a0_5) := (blk_cell BK235.out 5).trans rfl
         have hcz13_6 : wr.cell? ⟨gb235, 6, none⟩ = some (.slice A0_6 l0_6.length c0_6) := (blk_cell BK235.out 6).trans rfl
         have hcz13_7 : wr.cell? ⟨gb235, 7, none⟩ = some (.slice A0_7 l0_7.length c0_7) := (blk_cell BK235.out 7).trans rfl
         have hcz13_8 : wr.cell? ⟨gb235, 8, none⟩ = some (.slice A0_8 l0_8.length c0_8) := (blk_cell BK235.out 8).trans rfl
         have hfz13_0 := blk_frozen BK235.out 0
         have hfz13_1 := blk_frozen BK235.out 1
         have hfz13_2 := blk_frozen BK235.out 2
         have hfz13_3 := blk_frozen BK235.out 3
         have hfz13_4 := blk_frozen BK235.out 4
         have hfz13_5 := blk_frozen BK235.out 5
         have hfz13_6 := blk_frozen BK235.out 6
         have hfz13_7 := blk_frozen BK235.out 7
         have hfz13_8 := blk_frozen BK235.out 8
         have p236 : 0 ≤ (x3_2 : Int) := of_decide_eq_true (by first | (with_reducible assumption) | assumption)
         have q236 : x3_2 < (l0_8.length : Int) := of_decide_eq_true (by first | (with_reducible assumption) | assumption)
         obtain ⟨ad236, A236_0, c236_0, e236, hx236_0, hl236_0, hi236_0⟩ := at_L7 HR0_8.out x3_2 p236 q236
         cases e236
         replace hx236_0 := (HB.out.cell (World.block_lt_of_cell? w _ hx236_0)).trans hx236_0
         have HR236_0 := Aside0.mk hi236_0
         have HC236_0 := Aside0.mk hl236_0
         clear hi236_0 hl236_0
         replace p236 := eq_true p236
         replace q236 := eq_true q236
         go_wp2
         go_ret
         exact ⟨by first | rfl | (simp [errW_none, errW_some] <;> rfl) | (simp [*, errW_none, errW_some] <;> rfl), by repeat (first | (with_reducible first | exact HB.out | apply bwA | apply bwN | apply bw1 | refine bwS ?_ GE235.out) | exact HB.out)⟩
        ·rw [if_neg c12] at H
         have c12b0 : decide (20 < ((rd_L7 l0_8 x3_2).length : Int)) = false := decide_eq_false c12
         have c12b1 : decide (20 < (rd_L7 l0_8 x3_2).length) = false := decide_eq_false (by omega)
         clear c12
         have H' := Aside0.mk H
         clear H
         have hcz14_0 : wr.cell? ⟨gb235, 0, none⟩ = some (.int .i64 a0_0) := (blk_cell BK235.out 0).trans rfl
         have hcz14_1 : wr.cell? ⟨gb235, 1, none⟩ = some (.int .i64 a0_1) := (blk_cell BK235.out 1).trans rfl
         have hcz14_2 : wr.cell? ⟨gb235, 2, none⟩ = some (.int .i64 a0_2) := (blk_cell BK235.out 2).trans rfl
         have hcz14_3 : wr.cell? ⟨gb235, 3, none⟩ = some (.int .i64 a0_3) := (blk_cell BK235.out 3).trans rfl
         have hcz14_4 : wr.cell? ⟨gb235, 4, none⟩ = some (.int .i64 a0_4) := (blk_cell BK235.out 4).trans rfl
         have hcz14_5 : wr.cell? ⟨gb235, 5, none⟩ = some (.int .i64 a0_5) := (blk_cell BK235.out 5).trans rfl
         have hcz14_6 : wr.cell? ⟨gb235, 6, none⟩ = some (.slice A0_6 l0_6.length c0_6) := (blk_cell BK235.out 6).trans rfl
         have hcz14_7 : wr.cell? ⟨gb235, 7, none⟩ = some (.slice A0_7 l0_7.length c0_7) := (blk_cell BK235.out 7).trans rfl
         have hcz14_8 : wr.cell? ⟨gb235, 8, none⟩ = some (.slice A0_8 l0_8.length c0_8) := (blk_cell BK235.out 8).trans rfl
         have hfz14_0 := blk_frozen BK235.out 0
         have hfz14_1 := blk_frozen BK235.out 1
         have hfz14_2 := blk_frozen BK235.out 2
         have hfz14_3 := blk_frozen BK235.out 3
         have hfz14_4 := blk_frozen BK235.out 4
         have hfz14_5 := blk_frozen BK235.out 5
         have hfz14_6 := blk_frozen BK235.out 6
         have hfz14_7 := blk_frozen BK235.out 7
         have hfz14_8 := blk_frozen BK235.out 8
         have p236 : 0 ≤ (x3_2 : Int) := of_decide_eq_true (by first | (with_reducible assumption) | assumption)
         have q236 : x3_2 < (l0_8.length : Int) := of_decide_eq_true (by first | (with_reducible assumption) | assumption)
         obtain ⟨ad236, A236_0, c236_0, e236, hx236_0, hl236_0, hi236_0⟩ := at_L7 HR0_8.out x3_2 p236 q236
         cases e236
         replace hx236_0 := (HB.out.cell (World.block_lt_of_cell? w _ hx236_0)).trans hx236_0
         have HR236_0 := Aside0.mk hi236_0
         have HC236_0 := Aside0.mk hl236_0
         clear hi236_0 hl236_0
         replace p236 := eq_true p236
         replace q236 := eq_true q236
         go_wp2
         go_loopg [4] k2 (fun kq v4 w' => ∃ (x4_3 : Int), v4 = .int .i64 x4_3 ∧ Aside0 (quarrellaw16_Great.l1 kq x3_2 x4_3 a0_0 a0_1 a0_2 a0_3 a0_4 a0_5 l0_6 l0_7 l0_8 = some r) ∧ Aside0 (kq ≤ k2) ∧ Aside0 (w'.heap[gb235]? = some (.cells #[.int .i64 a0_0, .int .i64 a0_1, .int .i64 a0_2, .int .i64 a0_3, .int .i64 a0_4, .int .i64 a0_5, (.slice A0_6 l0_6.length c0_6), (.slice A0_7 l0_7.length c0_7), (.slice (some ad236) l0_8.length c0_8)] 68 (0, 0))) ∧ Aside0 (Below w.heap.size w w'))
         case atStart => exact ⟨(0), (by first | rfl | (simp; done) | (simp [*]; done)), H', ⟨Nat.le_refl _⟩, ⟨by (with_reducible repeat (first | refine blk_drewN ?_ _ | refine blk_drew ?_ | refine blk_alloc ?_ _)); exact BK235.out⟩, ⟨by repeat (first | (with_reducible first | exact HB.out | apply bwA | apply bwN | apply bw1 | refine bwS ?_ GE235.out) | exact HB.out)⟩⟩
         case round =>
          clear H'
          try clear c9
          try clear c10
          try clear c10b0
          try clear c11
          try clear c11b0
          try clear c12
          try clear c12b0
          try clear c12b1
          try clear hcz14_0 hcz14_1 hcz14_2 hcz14_3 hcz14_4 hcz14_5 hcz14_6 hcz14_7 hcz14_8
          try clear hfz14_0 hfz14_1 hfz14_2 hfz14_3 hfz14_4 hfz14_5 hfz14_6 hfz14_7 hfz14_8
          try clear hx236_0
          try clear p236
          try clear q236
          obtain ⟨x4_3, rfl, HA, HK3, BK235, HB⟩ := hrel
          cases gk with
          | zero => exact absurd HA.out (by simp [quarrellaw16_Great.l1])
          | succ k3 =>
           have H := HA.out
           clear HA
           simp only [quarrellaw16_Great.l1] at H
           by_cases c15 : 0 ≤ x3_2
           ·rw [if_pos c15] at H
            have c15b0 : decide (0 ≤ x3_2) = true := decide_eq_true c15
            clear c15
            by_cases c16 : x3_2 < (l0_8.length : Int)
            ·rw [if_pos c16] at H
             have c16b0 : decide (x3_2 < (l0_8.length : Int)) = true := decide_eq_true c16
             clear c16
             by_cases c17 : x4_3 < ((rd_L7 l0_8 x3_2).length : Int)
             ·rw [if_pos c17] at H
              have c17b0 : decide (x4_3 < ((rd_L7 l0_8 x3_2).length : Int)) = true := decide_eq_true c17
              clear c17
              by_cases c18 : 0 ≤ x4_3
              ·rw [if_pos c18] at H
               have c18b0 : decide (0 ≤ x4_3) = true := decide_eq_true c18
               clear c18
               by_cases c19 : ((rd_L6 (rd_L7 l0_8 x3_2) x4_3).length : Int) > 20
               ·rw [if_pos c19] at H
                have c19b0 : decide (20 < ((rd_L6 (rd_L7 l0_8 x3_2) x4_3).length : Int)) = true := decide_eq_true c19
                have c19b1 : decide (20 < (rd_L6 (rd_L7 l0_8 x3_2) x4_3).length) = true := decide_eq_true (by omega)
                clear c19
                obtain rfl := Option.some.inj H
                have hcz20_0 : wr.cell? ⟨gb235, 0, none⟩ = some (.int .i64 a0_0) := (blk_cell BK235.out 0).trans rfl
                have hcz20_1 : wr.cell? ⟨gb235, 1, none⟩ = some (.int .i64 a0_1) := (blk_cell BK235.out 1).trans rfl
                have hcz20_2 : wr.cell? ⟨gb235, 2, none⟩ = some (.int .i64 a0_2) := (blk_cell BK235.out 2).trans rfl
                have hcz20_3 : wr.cell? ⟨gb235, 3, none⟩ = some (.int .i64 a0_3) := (blk_cell BK235.out 3).trans rfl
                have hcz20_4 : wr.cell? ⟨gb235, 4, none⟩ = some (.int .i64 a0_4) := (blk_cell BK235.out 4).trans rfl
                have hcz20_5 : wr.cell? ⟨gb235, 5, none⟩ = some (.int .i64 a0_5) := (blk_cell BK235.out 5).trans rfl
                have hcz20_6 : wr.cell? ⟨gb235, 6, none⟩ = some (.slice A0_6 l0_6.length c0_6) := (blk_cell BK235.out 6).trans rfl
                have hcz20_7 : wr.cell? ⟨gb235, 7, none⟩ = some (.slice A0_7 l0_7.length c0_7) := (blk_cell BK235.out 7).trans rfl
                have hcz20_8 : wr.cell? ⟨gb235, 8, none⟩ = some (.slice (some ad236) l0_8.length c0_8) := (blk_cell BK235.out 8).trans rfl
                have hfz20_0 := blk_frozen BK235.out 0
                have hfz20_1 := blk_frozen BK235.out 1
                have hfz20_2 := blk_frozen BK235.out 2
                have hfz20_3 := blk_frozen BK235.out 3
                have hfz20_4 := blk_frozen BK235.out 4
                have hfz20_5 := blk_frozen BK235.out 5
                have hfz20_6 := blk_frozen BK235.out 6
                have hfz20_7 := blk_frozen BK235.out 7
                have hfz20_8 := blk_frozen BK235.out 8
                have p237 : 0 ≤ (x3_2 : Int) := of_decide_eq_true (by first | (with_reducible assumption) | assumption)
                have q237 : x3_2 < (l0_8.length : Int) := of_decide_eq_true (by first | (with_reducible assumption) | assumption)
                obtain ⟨ad237, A237_0, c237_0, e237, hx237_0, hl237_0, hi237_0⟩ := at_L7 HR0_8.out x3_2 p237 q237
                obtain rfl : ad236 = ad237 := (by injection e237)
                replace hx237_0 := (HB.out.cell (World.block_lt_of_cell? w _ hx237_0)).trans hx237_0
                have HR237_0 := Aside0.mk hi237_0
                have HC237_0 := Aside0.mk hl237_0
                clear hi237_0 hl237_0
                replace p237 := eq_true p237
                replace q237 := eq_true q237
                have p238 : 0 ≤ (x3_2 : Int) := of_decide_eq_true (by first | (with_reducible assumption) | assumption)
                have q238 : x3_2 < (l0_8.length : Int) := of_decide_eq_true (by first | (with_reducible assumption) | assumption)
                obtain ⟨ad238, A238_0, c238_0, e238, hx238_0, hl238_0, hi238_0⟩ := at_L7 HR0_8.out x3_2 p238 q238
                obtain rfl : ad236 = ad238 := (by injection e238)
                replace hx238_0 := (HB.out.cell (World.block_lt_of_cell? w _ hx238_0)).trans hx238_0
                have HR238_0 := Aside0.mk hi238_0
                have HC238_0 := Aside0.mk hl238_0
                clear hi238_0 hl238_0
                replace p238 := eq_true p238
                replace q238 := eq_true q238
                have ea_ := Option.some.inj (hx237_0.symm.trans hx238_0)
                injection ea_ with ea_ en_ ec_
                subst ea_
                subst ec_
                clear en_
                have p239 : 0 ≤ (x4_3 : Int) := of_decide_eq_true (by first | (with_reducible assumption) | assumption)
                have q239 : x4_3 < ((rd_L7 l0_8 x3_2).length : Int) := of_decide_eq_true (by first | (with_reducible assumption) | assumption)
                obtain ⟨ad239, A239_0, c239_0, e239, hx239_0, hl239_0, hi239_0⟩ := at_L6 HR238_0.out x4_3 p239 q239
                cases e239
                replace hx239_0 := (HB.out.cell (World.block_lt_of_cell? w _ hx239_0)).trans hx239_0
                have HR239_0 := Aside0.mk hi239_0
                have HC239_0 := Aside0.mk hl239_0
                clear hi239_0 hl239_0
                replace p239 := eq_true p239
                replace q239 := eq_true q239
                go_wp2
                go_ret
                exact ⟨by first | rfl | (simp [errW_none, errW_some] <;> rfl) | (simp [*, errW_none, errW_some] <;> rfl), by repeat (first | (with_reducible first | exact HB.out | apply bwA | apply bwN | apply bw1 | refine bwS ?_ GE235.out) | exact HB.out)⟩
               ·rw [if_neg c19] at H
                have c19b0 : decide (20 < ((rd_L6 (rd_L7 l0_8 x3_2) x4_3).length : Int)) = false := decide_eq_false c19
                have c19b1 : decide (20 < (rd_L6 (rd_L7 l0_8 x3_2) x4_3).length) = false := decide_eq_false (by omega)
                clear c19
                have H' := Aside0.mk H
                clear H
                have hcz21_0 : wr.cell? ⟨gb235, 0, none⟩ = some (.int .i64 a0_0) := (blk_cell BK235.out 0).trans rfl
                have hcz21_1 : wr.cell? ⟨gb235, 1, none⟩ = some (.int .i64 a0_1) := (blk_cell BK235.out 1).trans rfl
                have hcz21_2 : wr.cell? ⟨gb235, 2, none⟩ = some (.int .i64 a0_2) := (blk_cell BK235.out 2).trans rfl
                have hcz21_3 : wr.cell? ⟨gb235, 3, none⟩ = some (.int .i64 a0_3) := (blk_cell BK235.out 3).trans rfl
                have hcz21_4 : wr.cell? ⟨gb235, 4, none⟩ = some (.int .i64 a0_4) := (blk_cell BK235.out 4).trans rfl
                have hcz21_5 : wr.cell? ⟨gb235, 5, none⟩ = some (.int .i64 a0_5) := (blk_cell BK235.out 5).trans rfl
                have hcz21_6 : wr.cell? ⟨gb235, 6, none⟩ = some (.slice A0_6 l0_6.length c0_6) := (blk_cell BK235.out 6).trans rfl
                have hcz21_7 : wr.cell? ⟨gb235, 7, none⟩ = some (.slice A0_7 l0_7.length c0_7) := (blk_cell BK235.out 7).trans rfl
                have hcz21_8 : wr.cell? ⟨gb235, 8, none⟩ = some (.slice (some ad236) l0_8.length c0_8) := (blk_cell BK235.out 8).trans rfl
                have hfz21_0 := blk_frozen BK235.out 0
                have hfz21_1 := blk_frozen BK235.out 1
                have hfz21_2 := blk_frozen BK235.out 2
                have hfz21_3 := blk_frozen BK235.out 3
                have hfz21_4 := blk_frozen BK235.out 4
                have hfz21_5 := blk_frozen BK235.out 5
                have hfz21_6 := blk_frozen BK235.out 6
                have hfz21_7 := blk_frozen BK235.out 7
                have hfz21_8 := blk_frozen BK235.out 8
                have p237 : 0 ≤ (x3_2 : Int) := of_decide_eq_true (by first | (with_reducible assumption) | assumption)
                have q237 : x3_2 < (l0_8.length : Int) := of_decide_eq_true (by first | (with_reducible assumption) | assumption)
                obtain ⟨ad237, A237_0, c237_0, e237, hx237_0, hl237_0, hi237_0⟩ := at_L7 HR0_8.out x3_2 p237 q237
                obtain rfl : ad236 = ad237 := (by injection e237)
                replace hx237_0 := (HB.out.cell (World.block_lt_of_cell? w _ hx237_0)).trans hx237_0
                have HR237_0 := Aside0.mk hi237_0
                have HC237_0 := Aside0.mk hl237_0
                clear hi237_0 hl237_0
                replace p237 := eq_true p237
                replace q237 := eq_true q237
                have p238 : 0 ≤ (x3_2 : Int) := of_decide_eq_true (by first | (with_reducible assumption) | assumption)
                have q238 : x3_2 < (l0_8.length : Int) := of_decide_eq_true (by first | (with_reducible assumption) | assumption)
                obtain ⟨ad238, A238_0, c238_0, e238, hx238_0, hl238_0, hi238_0⟩ := at_L7 HR0_8.out x3_2 p238 q238
                obtain rfl : ad236 = ad238 := (by injection e238)
                replace hx238_0 := (HB.out.cell (World.block_lt_of_cell? w _ hx238_0)).trans hx238_0
                have HR238_0 := Aside0.mk hi238_0
                have HC238_0 := Aside0.mk hl238_0
                clear hi238_0 hl238_0
                replace p238 := eq_true p238
                replace q238 := eq_true q238
                have ea_ := Option.some.inj (hx237_0.symm.trans hx238_0)
                injection ea_ with ea_ en_ ec_
                subst ea_
                subst ec_
                clear en_
                have p239 : 0 ≤ (x4_3 : Int) := of_decide_eq_true (by first | (with_reducible assumption) | assumption)
                have q239 : x4_3 < ((rd_L7 l0_8 x3_2).length : Int) := of_decide_eq_true (by first | (with_reducible assumption) | assumption)
                obtain ⟨ad239, A239_0, c239_0, e239, hx239_0, hl239_0, hi239_0⟩ := at_L6 HR238_0.out x4_3 p239 q239
                cases e239
                replace hx239_0 := (HB.out.cell (World.block_lt_of_cell? w _ hx239_0)).trans hx239_0
                have HR239_0 := Aside0.mk hi239_0
                have HC239_0 := Aside0.mk hl239_0
                clear hi239_0 hl239_0
                replace p239 := eq_true p239
                replace q239 := eq_true q239
                go_wp2
                go_roundg k3
                case measure => have := HJ1.out; have := HK2.out; have := HK3.out; omega
                case rel => exact ⟨(wrap64 (x4_3 + 1)), (by first | rfl | (simp; done) | (simp [*]; done)), H', ⟨by have := HJ1.out; have := HK2.out; have := HK3.out; omega⟩, ⟨by (with_reducible repeat (first | refine blk_drewN ?_ _ | refine blk_drew ?_ | refine blk_alloc ?_ _)); exact BK235.out⟩, ⟨by repeat (first | (with_reducible first | exact HB.out | apply bwA | apply bwN | apply bw1 | refine bwS ?_ GE235.out) | exact HB.out)⟩⟩
              ·rw [if_neg c18] at H
               exact absurd H (by simp)
             ·rw [if_neg c17] at H
              have c17b0 : decide (x4_3 < ((rd_L7 l0_8 x3_2).length : Int)) = false := decide_eq_false c17
              clear c17
              have H' := Aside0.mk H
              clear H
              have hcz22_0 : wr.cell? ⟨gb235, 0, none⟩ = some (.int .i64 a0_0) := (blk_cell BK235.out 0).trans rfl
              have hcz22_1 : wr.cell? ⟨gb235, 1, none⟩ = some (.int .i64 a0_1) := (blk_cell BK235.out 1).trans rfl
              have hcz22_2 : wr.cell? ⟨gb235, 2, none⟩ = some (.int .i64 a0_2) := (blk_cell BK235.out 2).trans rfl
              have hcz22_3 : wr.cell? ⟨gb235, 3, none⟩ = some (.int .i64 a0_3) := (blk_cell BK235.out 3).trans rfl
              have hcz22_4 : wr.cell? ⟨gb235, 4, none⟩ = some (.int .i64 a0_4) := (blk_cell BK235.out 4).trans rfl
              have hcz22_5 : wr.cell? ⟨gb235, 5, none⟩ = some (.int .i64 a0_5) := (blk_cell BK235.out 5).trans rfl
              have hcz22_6 : wr.cell? ⟨gb235, 6, none⟩ = some (.slice A0_6 l0_6.length c0_6) := (blk_cell BK235.out 6).trans rfl
              have hcz22_7 : wr.cell? ⟨gb235, 7, none⟩ = some (.slice A0_7 l0_7.length c0_7) := (blk_cell BK235.out 7).trans rfl
              have hcz22_8 : wr.cell? ⟨gb235, 8, none⟩ = some (.slice (some ad236) l0_8.length c0_8) := (blk_cell BK235.out 8).trans rfl
              have hfz22_0 := blk_frozen BK235.out 0
              have hfz22_1 := blk_frozen BK235.out 1
              have hfz22_2 := blk_frozen BK235.out 2
              have hfz22_3 := blk_frozen BK235.out 3
              have hfz22_4 := blk_frozen BK235.out 4
              have hfz22_5 := blk_frozen BK235.out 5
              have hfz22_6 := blk_frozen BK235.out 6
              have hfz22_7 := blk_frozen BK235.out 7
              have hfz22_8 := blk_frozen BK235.out 8
              have p237 : 0 ≤ (x3_2 : Int) := of_decide_eq_true (by first | (with_reducible assumption) | assumption)
              have q237 : x3_2 < (l0_8.length : Int) := of_decide_eq_true (by first | (with_reducible assumption) | assumption)
              obtain ⟨ad237, A237_0, c237_0, e237, hx237_0, hl237_0, hi237_0⟩ := at_L7 HR0_8.out x3_2 p237 q237
              obtain rfl : ad236 = ad237 := (by injection e237)
              replace hx237_0 := (HB.out.cell (World.block_lt_of_cell? w _ hx237_0)).trans hx237_0
              have HR237_0 := Aside0.mk hi237_0
              have HC237_0 := Aside0.mk hl237_0
              clear hi237_0 hl237_0
              replace p237 := eq_true p237
              replace q237 := eq_true q237
              go_wp2
              go_roundg k3
              case measure => have := HJ1.out; have := HK2.out; have := HK3.out; omega
              case rel => exact ⟨(wrap64 (x3_2 + 1)), (by first | rfl | (simp; done) | (simp [*]; done)), H', ⟨by have := HJ1.out; have := HK2.out; have := HK3.out; omega⟩, ⟨by (with_reducible repeat (first | refine blk_drewN ?_ _ | refine blk_drew ?_ | refine blk_alloc ?_ _)); exact BK235.out⟩, ⟨by repeat (first | (with_reducible first | exact HB.out | apply bwA | apply bwN | apply bw1 | refine bwS ?_ GE235.out) | exact HB.out)⟩⟩
            ·rw [if_neg c16] at H
             exact absurd H (by simp)
           ·rw [if_neg c15] at H
            exact absurd H (by simp)
       ·rw [if_neg c11] at H
        exact absurd H (by simp)
      ·rw [if_neg c10] at H
       have c10b0 : decide (x3_2 < (l0_8.length : Int)) = false := decide_eq_false c10
       clear c10
       obtain rfl := Option.some.inj H
       have hcz23_0 : wr.cell? ⟨gb235, 0, none⟩ = some (.int .i64 a0_0) := (blk_cell BK235.out 0).trans rfl
       have hcz23_1 : wr.cell? ⟨gb235, 1, none⟩ = some (.int .i64 a0_1) := (blk_cell BK235.out 1).trans rfl
       have hcz23_2 : wr.cell? ⟨gb235, 2, none⟩ = some (.int .i64 a0_2) := (blk_cell BK235.out 2).trans rfl
       have hcz23_3 : wr.cell? ⟨gb235, 3, none⟩ = some (.int .i64 a0_3) := (blk_cell BK235.out 3).trans rfl
       have hcz23_4 : wr.cell? ⟨gb235, 4, none⟩ = some (.int .i64 a0_4) := (blk_cell BK235.out 4).trans rfl
       have hcz23_5 : wr.cell? ⟨gb235, 5, none⟩ = some (.int .i64 a0_5) := (blk_cell BK235.out 5).trans rfl
       have hcz23_6 : wr.cell? ⟨gb235, 6, none⟩ = some (.slice A0_6 l0_6.length c0_6) := (blk_cell BK235.out 6).trans rfl
       have hcz23_7 : wr.cell? ⟨gb235, 7, none⟩ = some (.slice A0_7 l0_7.length c0_7) := (blk_cell BK235.out 7).trans rfl
       have hcz23_8 : wr.cell? ⟨gb235, 8, none⟩ = some (.slice A0_8 l0_8.length c0_8) := (blk_cell BK235.out 8).trans rfl
       have hfz23_0 := blk_frozen BK235.out 0
       have hfz23_1 := blk_frozen BK235.out 1
       have hfz23_2 := blk_frozen BK235.out 2
       have hfz23_3 := blk_frozen BK235.out 3
       have hfz23_4 := blk_frozen BK235.out 4
       have hfz23_5 := blk_frozen BK235.out 5
       have hfz23_6 := blk_frozen BK235.out 6
       have hfz23_7 := blk_frozen BK235.out 7
       have hfz23_8 := blk_frozen BK235.out 8
       go_wp2
       go_ret
       exact ⟨by first | rfl | (simp [errW_none, errW_some] <;> rfl) | (simp [*, errW_none, errW_some] <;> rfl), by repeat (first | (with_reducible first | exact HB.out | apply bwA | apply bwN | apply bw1 | refine bwS ?_ GE235.out) | exact HB.out)⟩
def quarrellaw20_great.f (k : Nat) (a0_0 : Int) (a0_1 : Int) (a0_2 : Int) (a0_3 : Int) (a0_4 : Int) (a0_5 : Int) (l0_6 : List Int) (l0_7 : List Int) (l0_8 : List (List (List (S80)))) (l0_9 : List Int) : Option (Bool) := if (l0_9.length : Int) > 1000 then (some true) else (if (l0_7.length : Int) > 1000 then (some true) else ((quarrellaw16_Great.f k 0 0 0 0 0 0 l0_6 ([] : List Int) l0_8).bind fun t241 => (some (decide (t241 > 0)))))
theorem quarrellaw20_great.mono : ∀ a0 a1 a2 a3 a4 a5 a6 a7 a8 a9 k, LeO (quarrellaw20_great.f k a0 a1 a2 a3 a4 a5 a6 a7 a8 a9) (quarrellaw20_great.f (k + 1) a0 a1 a2 a3 a4 a5 a6 a7 a8 a9) := by
  intro a0 a1 a2 a3 a4 a5 a6 a7 a8 a9 k
  unfold quarrellaw20_great.f
  repeat' first
      | (with_reducible exact quarrellaw16_Great.mono _ _ _ _ _ _ _ _ _ _)
      | (with_reducible exact LeO.refl _)
      | (with_reducible exact LeO.none _)
      | (with_reducible refine LeO.ite ?_ ?_)
      | (with_reducible refine LeO.bind ?_ (fun _ => ?_))
      | exact quarrellaw16_Great.mono _ _ _ _ _ _ _ _ _ _
      | exact LeO.none _
      | refine LeO.ite ?_ ?_
      | refine LeO.bind ?_ (fun _ => ?_)
set_option maxHeartbeats 8000000 in
set_option maxRecDepth 100000 in
theorem quarrellaw20_great.calls (k : Nat) (a0_0 : Int) (a0_1 : Int) (a0_2 : Int) (a0_3 : Int) (a0_4 : Int) (a0_5 : Int) (A0_6 : Option Addr) (c0_6 : Nat) (l0_6 : List Int) (A0_7 : Option Addr) (c0_7 : Nat) (l0_7 : List Int) (A0_8 : Option Addr) (c0_8 : Nat) (l0_8 : List (List (List (S80)))) (A0_9 : Option Addr) (c0_9 : Nat) (l0_9 : List Int) (r : Bool) (w : World) (hr0_6 : Kd.C (Kd.int .i64) w A0_6 l0_6.length l0_6) (hc0_6 : l0_6.length ≤ c0_6) (hr0_7 : Kd.C (Kd.int .u8) w A0_7 l0_7.length l0_7) (hc0_7 : l0_7.length ≤ c0_7) (hr0_8 : Kd.C (Kd.slice 61 (Kd.slice 80 k80)) w A0_8 l0_8.length l0_8) (hc0_8 : l0_8.length ≤ c0_8) (hr0_9 : Kd.C (Kd.int .i64) w A0_9 l0_9.length l0_9) (hc0_9 : l0_9.length ≤ c0_9) (h : quarrellaw20_great.f k a0_0 a0_1 a0_2 a0_3 a0_4 a0_5 l0_6 l0_7 l0_8 l0_9 = some r) :
  Calls Try.prog 13 #[.agg #[.int .i64 a0_0, .int .i64 a0_1, .int .i64 a0_2, .int .i64 a0_3, .int .i64 a0_4, .int .i64 a0_5, .slice A0_6 l0_6.length c0_6, .slice A0_7 l0_7.length c0_7, .slice A0_8 l0_8.length c0_8, .slice A0_9 l0_9.length c0_9]] w fun e w' => e = .returned (.bool r) ∧ Below w.heap.size w w' := by
 have hu34 := Try.underlying34
 have hu68 := Try.underlying68
 have HR0_6 := Aside0.mk hr0_6
 have HC0_6 := Aside0.mk hc0_6
 clear hr0_6 hc0_6
 have HR0_7 := Aside0.mk hr0_7
 have HC0_7 := Aside0.mk hc0_7
 clear hr0_7 hc0_7
 have HR0_8 := Aside0.mk hr0_8
 have HC0_8 := Aside0.mk hc0_8
 clear hr0_8 hc0_8
 have HR0_9 := Aside0.mk hr0_9
 have HC0_9 := Aside0.mk hc0_9
 clear hr0_9 hc0_9
 have HB := Aside0.mk (Below.refl w.heap.size w)
 have H : (if (l0_9.length : Int) > 1000 then (some true) else (if (l0_7.length : Int) > 1000 then (some true) else ((quarrellaw16_Great.f k 0 0 0 0 0 0 l0_6 ([] : List Int) l0_8).bind fun t241 => (some (decide (t241 > 0)))))) = some r := h
 clear h
 by_cases c2 : (l0_9.length : Int) > 1000
 ·rw [if_pos c2] at H
  have c2b0 : decide (1000 < (l0_9.length : Int)) = true := decide_eq_true c2
  have c2b1 : decide (1000 < l0_9.length) = true := decide_eq_true (by omega)
  clear c2
  obtain rfl := Option.some.inj H
  go_enter Try.func13, Try.ntmps13
  go_wp2_with (first | ((with_reducible refine gate_dst (N := 1) rfl ?_); (try (refine gate_guard (by rfl) ?_; dsimp only)); refine box_event ?hg (N := 1) ?hd (cs := #[.int .i64 a0_0, .int .i64 a0_1, .int .i64 a0_2, .int .i64 a0_3, .int .i64 a0_4, .int .i64 a0_5, .slice A0_6 l0_6.length c0_6, .slice A0_7 l0_7.length c0_7, .slice A0_8 l0_8.length c0_8, .slice A0_9 l0_9.length c0_9]) (t := 34) ?hr ?_; (case hd => rfl); (case hg => rfl); (case hr => first | (go_simp; done) | (go_simp; rfl)); intro gb240 hg w3 hbox hb; have n0_ := Aside0.mk (below_step (by repeat (first | (with_reducible first | exact HB.out | apply bwA | apply bwN | apply bw1) | exact HB.out)) hb); have n1_ := Aside0.mk (hbox); have n2_ := Aside0.mk ((by rw [hg]; exact (below_size (by repeat (first | (with_reducible first | exact HB.out | apply bwA | apply bwN | apply bw1) | exact HB.out))) : w.heap.size ≤ gb240)); have n3_ := Aside0.mk ((by rw [hg]; exact (below_size (by repeat (first | (with_reducible first | exact HB.out | apply bwA | apply bwN | apply bw1) | exact HB.out))) : w.heap.size ≤ gb240)); clear HB; have HB := n0_; have BK240 := n1_; have GW240 := n2_; have GE240 := n3_; clear n0_ n1_ n2_ n3_; clear hb hbox hg; obtain ⟨hcz4_0, hcz4_1, hcz4_2, hcz4_3, hcz4_4, hcz4_5, hcz4_6, hcz4_7, hcz4_8, hcz4_9, hfz4_0, hfz4_1, hfz4_2, hfz4_3, hfz4_4, hfz4_5, hfz4_6, hfz4_7, hfz4_8, hfz4_9⟩ := cf10 BK240.out))
  go_ret
  exact ⟨by first | rfl | (simp [errW_none, errW_some] <;> rfl) | (simp [*, errW_none, errW_some] <;> rfl), by repeat (first | (with_reducible first | exact HB.out | apply bwA | apply bwN | apply bw1 | refine bwS ?_ GE240.out) | exact HB.out)⟩
 ·rw [if_neg c2] at H
  have c2b0 : decide (1000 < (l0_9.length : Int)) = false := decide_eq_false c2
  have c2b1 : decide (1000 < l0_9.length) = false := decide_eq_false (by omega)
  clear c2
  by_cases c5 : (l0_7.length : Int) > 1000
  ·rw [if_pos c5] at H
   have c5b0 : decide (1000 < (l0_7.length : Int)) = true := decide_eq_true c5
   have c5b1 : decide (1000 < l0_7.length) = true := decide_eq_true (by omega)
   clear c5
   obtain rfl := Option.some.inj H
   go_enter Try.func13, Try.ntmps13
   go_wp2_with (first | ((with_reducible refine gate_dst (N := 1) rfl ?_); (try (refine gate_guard (by rfl) ?_; dsimp only)); refine box_event ?hg (N := 1) ?hd (cs := #[.int .i64 a0_0, .int .i64 a0_1, .int .i64 a0_2, .int .i64 a0_3, .int .i64 a0_4, .int .i64 a0_5, .slice A0_6 l0_6.length c0_6, .slice A0_7 l0_7.length c0_7, .slice A0_8 l0_8.length c0_8, .slice A0_9 l0_9.length c0_9]) (t := 34) ?hr ?_; (case hd => rfl); (case hg => rfl); (case hr => first | (go_simp; done) | (go_simp; rfl)); intro gb240 hg w6 hbox hb; have n0_ := Aside0.mk (below_step (by repeat (first | (with_reducible first | exact HB.out | apply bwA | apply bwN | apply bw1) | exact HB.out)) hb); have n1_ := Aside0.mk (hbox); have n2_ := Aside0.mk ((by rw [hg]; exact (below_size (by repeat (first | (with_reducible first | exact HB.out | apply bwA | apply bwN | apply bw1) | exact HB.out))) : w.heap.size ≤ gb240)); have n3_ := Aside0.mk ((by rw [hg]; exact (below_size (by repeat (first | (with_reducible first | exact HB.out | apply bwA | apply bwN | apply bw1) | exact HB.out))) : w.heap.size ≤ gb240)); clear HB; have HB := n0_; have BK240 := n1_; have GW240 := n2_; have GE240 := n3_; clear n0_ n1_ n2_ n3_; clear hb hbox hg; obtain ⟨hcz7_0, hcz7_1, hcz7_2, hcz7_3, hcz7_4, hcz7_5, hcz7_6, hcz7_7, hcz7_8, hcz7_9, hfz7_0, hfz7_1, hfz7_2, hfz7_3, hfz7_4, hfz7_5, hfz7_6, hfz7_7, hfz7_8, hfz7_9⟩ := cf10 BK240.out))
   go_ret
   exact ⟨by first | rfl | (simp [errW_none, errW_some] <;> rfl) | (simp [*, errW_none, errW_some] <;> rfl), by repeat (first | (with_reducible first | exact HB.out | apply bwA | apply bwN | apply bw1 | refine bwS ?_ GE240.out) | exact HB.out)⟩
  ·rw [if_neg c5] at H
   have c5b0 : decide (1000 < (l0_7.length : Int)) = false := decide_eq_false c5
   have c5b1 : decide (1000 < l0_7.length) = false := decide_eq_false (by omega)
   clear c5
   replace H := Option.bind_eq_some_iff.mp H
   obtain ⟨t241, A80, H⟩ := H
   replace H : (some (decide (t241 > 0))) = some r := H
   have A8 := Aside0.mk A80
   clear A80
   obtain rfl := Option.some.inj H
   go_enter Try.func13, Try.ntmps13
   go_wp2_with (first | ((with_reducible refine gate_dst (N := 1) rfl ?_); (try (refine gate_guard (by rfl) ?_; dsimp only)); refine box_event ?hg (N := 1) ?hd (cs := #[.int .i64 a0_0, .int .i64 a0_1, .int .i64 a0_2, .int .i64 a0_3, .int .i64 a0_4, .int .i64 a0_5, .slice A0_6 l0_6.length c0_6, .slice A0_7 l0_7.length c0_7, .slice A0_8 l0_8.length c0_8, .slice A0_9 l0_9.length c0_9]) (t := 34) ?hr ?_; (case hd => rfl); (case hg => rfl); (case hr => first | (go_simp; done) | (go_simp; rfl)); intro gb240 hg w9 hbox hb; have n0_ := Aside0.mk (below_step (by repeat (first | (with_reducible first | exact HB.out | apply bwA | apply bwN | apply bw1) | exact HB.out)) hb); have n1_ := Aside0.mk (hbox); have n2_ := Aside0.mk ((by rw [hg]; exact (below_size (by repeat (first | (with_reducible first | exact HB.out | apply bwA | apply bwN | apply bw1) | exact HB.out))) : w.heap.size ≤ gb240)); have n3_ := Aside0.mk ((by rw [hg]; exact (below_size (by repeat (first | (with_reducible first | exact HB.out | apply bwA | apply bwN | apply bw1) | exact HB.out))) : w.heap.size ≤ gb240)); clear HB; have HB := n0_; have BK240 := n1_; have GW240 := n2_; have GE240 := n3_; clear n0_ n1_ n2_ n3_; clear hb hbox hg; obtain ⟨hcz10_0, hcz10_1, hcz10_2, hcz10_3, hcz10_4, hcz10_5, hcz10_6, hcz10_7, hcz10_8, hcz10_9, hfz10_0, hfz10_1, hfz10_2, hfz10_3, hfz10_4, hfz10_5, hfz10_6, hfz10_7, hfz10_8, hfz10_9⟩ := cf10 BK240.out) | (go_at_call 30; (refine (quarrellaw16_Great.calls k 0 0 0 0 0 0 _ _ l0_6 _ _ ([] : List Int) _ _ l0_8 t241 _ ?side1 ?side2 ?side3 ?side4 ?side5 ?side6 A8.out).mono ?_); (case side1 => repeat (first | exact (Kd.C_below HR0_6.out HB.out) | (with_reducible refine Kd.C_alloc ?_ _) | (with_reducible refine Kd.C_drewN ?_ _) | (with_reducible refine Kd.C_drew ?_))); (case side2 => exact HC0_6.out); (case side3 => exact Kd.C_nil _ _); (case side4 => exact Nat.le_refl _); (case side5 => repeat (first | exact (Kd.C_below HR0_8.out HB.out) | (with_reducible refine Kd.C_alloc ?_ _) | (with_reducible refine Kd.C_drewN ?_ _) | (with_reducible refine Kd.C_drew ?_))); (case side6 => exact HC0_8.out); rintro e w11 ⟨rfl, hb⟩; have n0_ := Aside0.mk (blk_below (g := gb240) (o := .cells #[.int .i64 a0_0, .int .i64 a0_1, .int .i64 a0_2, .int .i64 a0_3, .int .i64 a0_4, .int .i64 a0_5, .slice A0_6 l0_6.length c0_6, .slice A0_7 l0_7.length c0_7, .slice A0_8 l0_8.length c0_8, .slice A0_9 l0_9.length c0_9] 34 (0, 0)) (by (with_reducible repeat (first | refine blk_drewN ?_ _ | refine blk_drew ?_ | refine blk_alloc ?_ _)); exact BK240.out) hb); have n1_ := Aside0.mk (below_step (by repeat (first | (with_reducible first | exact HB.out | apply bwA | apply bwN | apply bw1 | refine bwS ?_ GE240.out) | exact HB.out)) hb); clear BK240; clear HB; have BK240 := n0_; have HB := n1_; clear n0_ n1_; (try clear hb); (try clear hb2); (try clear hk); (try clear hi)))
   go_ret
   exact ⟨by first | rfl | (simp [errW_none, errW_some] <;> rfl) | (simp [*, errW_none, errW_some] <;> rfl), by repeat (first | (with_reducible first | exact HB.out | apply bwA | apply bwN | apply bw1 | refine bwS ?_ GE240.out) | exact HB.out)⟩
end Go.Proofs.Ythfkgnkojhocbaa.S
end
section
namespace Go.Proofs.Ythfkgnkojhocbaa.S
open Go Go.RowKit Go.Proofs.YthfkgnkojhocbaaW.PrintWords Go.Proofs.YthfkgnkojhocbaaW.PrintLast
set_option linter.unusedVariables false
set_option linter.unusedSimpArgs false
/-- The place of the first that may not be, or -1. -/
def idxN {α : Type} (p : α → Bool) (l : List α) : Int := match l.findIdx? (fun o => !(p o)) with | some i => (i : Int) | none => -1
theorem idxN_hit {α : Type} (p : α → Bool) (l : List α) (k : Nat) (hk : k < l.length) (h : p l[k] = false) (hb : ∀ j (hj : j < k), p (l[j]'(by omega)) = true) : idxN p l = k := by
  have : l.findIdx? (fun o => !(p o)) = some k := by
    rw [List.findIdx?_eq_some_iff_getElem]
    exact ⟨hk, by simp [h], fun j hj => by simp [hb j hj]⟩
  simp [idxN, this]
theorem idxN_miss {α : Type} (p : α → Bool) (l : List α) (hb : ∀ j (hj : j < l.length), p (l[j]'(by omega)) = true) : idxN p l = -1 := by
  have : l.findIdx? (fun o => !(p o)) = none := by
    rw [List.findIdx?_eq_none_iff]
    intro x hx
    obtain ⟨i, hi, rfl⟩ := List.getElem_of_mem hx
    simp [hb i hi]
  simp [idxN, this]
theorem idxN_all {α : Type} (p : α → Bool) (l : List α) : decide (0 ≤ idxN p l) = !(l.all p) := by
  unfold idxN
  split
  · rename_i i h
    rw [List.findIdx?_eq_some_iff_getElem] at h
    obtain ⟨hi, h1, _⟩ := h
    have : l.all p = false := by
      rw [List.all_eq_false]
      exact ⟨l[i], List.getElem_mem hi, by simpa using h1⟩
    simp [this]
  · rename_i h
    rw [List.findIdx?_eq_none_iff] at h
    have : l.all p = true := by
      rw [List.all_eq_true]
      intro x hx
      simpa using h x hx
    simp [this]
set_option maxHeartbeats 8000000 in
theorem in64.idx (p : Int → Bool) (B1 : Nat) (B2 : Nat) (A0 : Option Addr) (c0 : Nat) (l0 : List (Int)) (w : World) (hr0 : Kd.C (Kd.int .i64) w A0 l0.length l0) (hc : ∀ x ∈ l0, ∀ (W : World), Below w.heap.size w W → Calls Try.prog 48 #[.int .i64 x, .pointer (some ⟨B1, 0, none⟩), .pointer (some ⟨B2, 0, none⟩)] W fun e W' => e = .returned (.bool (!(p x))) ∧ Below W.heap.size W W') :
    Calls Try.prog 56 #[.slice A0 l0.length c0, .func (.func 48) #[] #[.pointer (some ⟨B1, 0, none⟩), .pointer (some ⟨B2, 0, none⟩)]] w fun e w' => e = .returned (.int .i64 (idxN p l0)) ∧ Below w.heap.size w w' := by
  have hmax : l0.length ≤ 9223372036854775807 := Kd.C_max hr0
  have HR := Aside0.mk hr0
  have HC := Aside0.mk hc
  clear hr0 hc
  go_enter Try.func56, Try.ntmps56
  go_wp2
  go_loopg [5, 8] l0.length (fun gg _ s8 wr => ∃ kk : Nat, kk ≤ l0.length ∧ l0.length - kk ≤ gg ∧ s8 = .int .i64 kk ∧ Aside0 (Below w.heap.size w wr) ∧ Aside0 (∀ j (hj : j < kk) (hl : j < l0.length), p l0[j] = true))
  case atStart => exact ⟨0, Nat.zero_le _, by omega, rfl, ⟨Below.refl _ w⟩, ⟨fun j hj => absurd hj (Nat.not_lt_zero _)⟩⟩
  case round =>
    obtain ⟨kk, hkk, hg, rfl, HB, A⟩ := hrel
    by_cases hlt : kk < l0.length
    · have hltz : (kk : Int) < (l0.length : Int) := by omega
      obtain ⟨ad, ea, h0⟩ := Kd.at_int HR.out (kk : Int) (by omega) (by omega)
      subst ea
      have hrd : rd l0 (kk : Int) = l0[kk] := by simp [rd, hlt]
      rw [hrd] at h0
      replace h0 := (HB.out.cell (World.block_lt_of_cell? w _ h0)).trans h0
      simp only [Int.toNat_natCast] at h0
      have hcall := HC.out l0[kk] (List.getElem_mem hlt) wr HB.out
      clear hrd
      generalize hx : l0[kk] = x at h0 hcall
      have X := Aside0.mk hx
      clear hx
      cases hq : p x with
      | true =>
        rw [hq] at hcall
        go_wp2_with (go_at_call 48; refine hcall.mono ?_; rintro e w' ⟨rfl, hb'⟩)
        go_roundg (l0.length - (kk + 1))
        case measure => omega
        case rel =>
          refine ⟨kk + 1, by omega, by omega, by go_num, ⟨below_step HB.out hb'⟩, ⟨fun j hj hl => ?_⟩⟩
          by_cases e : j = kk
          · subst e
            rw [X.out]; exact hq
          · exact A.out j (by omega) hl
      | false =>
        rw [hq] at hcall
        go_wp2_with (go_at_call 48; refine hcall.mono ?_; rintro e w' ⟨rfl, hb'⟩)
        go_ret
        refine ⟨?_, below_step HB.out hb'⟩
        rw [idxN_hit p l0 kk hlt (by rw [X.out]; exact hq) (fun j hj => A.out j hj (by omega))]; rfl
    · have hltz : ¬ (kk : Int) < (l0.length : Int) := by omega
      have : kk = l0.length := by omega
      subst this
      go_wp2
      go_ret
      refine ⟨?_, HB.out⟩
      rw [idxN_miss p l0 (fun j hj => A.out j hj hj)]; rfl
set_option maxHeartbeats 8000000 in
theorem in64.cont (p : Int → Bool) (B1 : Nat) (B2 : Nat) (A0 : Option Addr) (c0 : Nat) (l0 : List (Int)) (w : World) (hr0 : Kd.C (Kd.int .i64) w A0 l0.length l0) (hc : ∀ x ∈ l0, ∀ (W : World), Below w.heap.size w W → Calls Try.prog 48 #[.int .i64 x, .pointer (some ⟨B1, 0, none⟩), .pointer (some ⟨B2, 0, none⟩)] W fun e W' => e = .returned (.bool (!(p x))) ∧ Below W.heap.size W W') :
    Calls Try.prog 47 #[.slice A0 l0.length c0, .func (.func 48) #[] #[.pointer (some ⟨B1, 0, none⟩), .pointer (some ⟨B2, 0, none⟩)]] w fun e w' => e = .returned (.bool (!(l0.all p))) ∧ Below w.heap.size w w' := by
  have H := in64.idx p B1 B2 A0 c0 l0 w hr0 hc
  have E := Aside0.mk (idxN_all p l0)
  clear hr0 hc
  generalize idxN p l0 = r at H E
  go_enter Try.func47, Try.ntmps47
  go_wp2_with (go_at_call 56; refine H.mono ?_; rintro e w' ⟨rfl, hb'⟩)
  go_ret
  exact ⟨by rw [← E.out]; rfl, hb'⟩
set_option maxHeartbeats 8000000 in
theorem inT.idx (p : Int → Bool) (B1 : Nat) (B2 : Nat) (A0 : Option Addr) (c0 : Nat) (l0 : List (Int)) (w : World) (hr0 : Kd.C (Kd.int .i64) w A0 l0.length l0) (hc : ∀ x ∈ l0, ∀ (W : World), Below w.heap.size w W → Calls Try.prog 50 #[.int .i64 x, .pointer (some ⟨B1, 0, none⟩), .pointer (some ⟨B2, 0, none⟩)] W fun e W' => e = .returned (.bool (!(p x))) ∧ Below W.heap.size W W') :
    Calls Try.prog 57 #[.slice A0 l0.length c0, .func (.func 50) #[] #[.pointer (some ⟨B1, 0, none⟩), .pointer (some ⟨B2, 0, none⟩)]] w fun e w' => e = .returned (.int .i64 (idxN p l0)) ∧ Below w.heap.size w w' := by
  have hmax : l0.length ≤ 9223372036854775807 := Kd.C_max hr0
  have HR := Aside0.mk hr0
  have HC := Aside0.mk hc
  clear hr0 hc
  go_enter Try.func57, Try.ntmps57
  go_wp2
  go_loopg [5, 8] l0.length (fun gg _ s8 wr => ∃ kk : Nat, kk ≤ l0.length ∧ l0.length - kk ≤ gg ∧ s8 = .int .i64 kk ∧ Aside0 (Below w.heap.size w wr) ∧ Aside0 (∀ j (hj : j < kk) (hl : j < l0.length), p l0[j] = true))
  case atStart => exact ⟨0, Nat.zero_le _, by omega, rfl, ⟨Below.refl _ w⟩, ⟨fun j hj => absurd hj (Nat.not_lt_zero _)⟩⟩
  case round =>
    obtain ⟨kk, hkk, hg, rfl, HB, A⟩ := hrel
    by_cases hlt : kk < l0.length
    · have hltz : (kk : Int) < (l0.length : Int) := by omega
      obtain ⟨ad, ea, h0⟩ := Kd.at_int HR.out (kk : Int) (by omega) (by omega)
      subst ea
      have hrd : rd l0 (kk : Int) = l0[kk] := by simp [rd, hlt]
      rw [hrd] at h0
      replace h0 := (HB.out.cell (World.block_lt_of_cell? w _ h0)).trans h0
      simp only [Int.toNat_natCast] at h0
      have hcall := HC.out l0[kk] (List.getElem_mem hlt) wr HB.out
      clear hrd
      generalize hx : l0[kk] = x at h0 hcall
      have X := Aside0.mk hx
      clear hx
      cases hq : p x with
      | true =>
        rw [hq] at hcall
        go_wp2_with (go_at_call 50; refine hcall.mono ?_; rintro e w' ⟨rfl, hb'⟩)
        go_roundg (l0.length - (kk + 1))
        case measure => omega
        case rel =>
          refine ⟨kk + 1, by omega, by omega, by go_num, ⟨below_step HB.out hb'⟩, ⟨fun j hj hl => ?_⟩⟩
          by_cases e : j = kk
          · subst e
            rw [X.out]; exact hq
          · exact A.out j (by omega) hl
      | false =>
        rw [hq] at hcall
        go_wp2_with (go_at_call 50; refine hcall.mono ?_; rintro e w' ⟨rfl, hb'⟩)
        go_ret
        refine ⟨?_, below_step HB.out hb'⟩
        rw [idxN_hit p l0 kk hlt (by rw [X.out]; exact hq) (fun j hj => A.out j hj (by omega))]; rfl
    · have hltz : ¬ (kk : Int) < (l0.length : Int) := by omega
      have : kk = l0.length := by omega
      subst this
      go_wp2
      go_ret
      refine ⟨?_, HB.out⟩
      rw [idxN_miss p l0 (fun j hj => A.out j hj hj)]; rfl
set_option maxHeartbeats 8000000 in
theorem inT.cont (p : Int → Bool) (B1 : Nat) (B2 : Nat) (A0 : Option Addr) (c0 : Nat) (l0 : List (Int)) (w : World) (hr0 : Kd.C (Kd.int .i64) w A0 l0.length l0) (hc : ∀ x ∈ l0, ∀ (W : World), Below w.heap.size w W → Calls Try.prog 50 #[.int .i64 x, .pointer (some ⟨B1, 0, none⟩), .pointer (some ⟨B2, 0, none⟩)] W fun e W' => e = .returned (.bool (!(p x))) ∧ Below W.heap.size W W') :
    Calls Try.prog 49 #[.slice A0 l0.length c0, .func (.func 50) #[] #[.pointer (some ⟨B1, 0, none⟩), .pointer (some ⟨B2, 0, none⟩)]] w fun e w' => e = .returned (.bool (!(l0.all p))) ∧ Below w.heap.size w w' := by
  have H := inT.idx p B1 B2 A0 c0 l0 w hr0 hc
  have E := Aside0.mk (idxN_all p l0)
  clear hr0 hc
  generalize idxN p l0 = r at H E
  go_enter Try.func49, Try.ntmps49
  go_wp2_with (go_at_call 57; refine H.mono ?_; rintro e w' ⟨rfl, hb'⟩)
  go_ret
  exact ⟨by rw [← E.out]; rfl, hb'⟩
set_option maxHeartbeats 8000000 in
theorem inOps.idx (p : List S80 → Bool) (B1 : Nat) (A0 : Option Addr) (c0 : Nat) (l0 : List (List S80)) (w : World) (hr0 : Kd.C (Kd.slice 80 k80) w A0 l0.length l0) (hc : ∀ x ∈ l0, ∀ (A : Option Addr) (c : Nat) (W : World), Below w.heap.size w W → k80.C W A x.length x → x.length ≤ c → Calls Try.prog 53 #[.slice A x.length c, .pointer (some ⟨B1, 0, none⟩)] W fun e W' => e = .returned (.bool (!(p x))) ∧ Below W.heap.size W W') :
    Calls Try.prog 58 #[.slice A0 l0.length c0, .func (.func 53) #[] #[.pointer (some ⟨B1, 0, none⟩)]] w fun e w' => e = .returned (.int .i64 (idxN p l0)) ∧ Below w.heap.size w w' := by
  have hmax : l0.length ≤ 9223372036854775807 := Kd.C_max hr0
  have HR := Aside0.mk hr0
  have HC := Aside0.mk hc
  clear hr0 hc
  go_enter Try.func58, Try.ntmps58
  go_wp2
  go_loopg [5, 8] l0.length (fun gg _ s8 wr => ∃ kk : Nat, kk ≤ l0.length ∧ l0.length - kk ≤ gg ∧ s8 = .int .i64 kk ∧ Aside0 (Below w.heap.size w wr) ∧ Aside0 (∀ j (hj : j < kk) (hl : j < l0.length), p l0[j] = true))
  case atStart => exact ⟨0, Nat.zero_le _, by omega, rfl, ⟨Below.refl _ w⟩, ⟨fun j hj => absurd hj (Nat.not_lt_zero _)⟩⟩
  case round =>
    obtain ⟨kk, hkk, hg, rfl, HB, A⟩ := hrel
    by_cases hlt : kk < l0.length
    · have hltz : (kk : Int) < (l0.length : Int) := by omega
      obtain ⟨ad, c, ea, _, hK, hc0⟩ := Kd.C_get HR.out [] (kk : Int) (by omega) (by omega)
      have hq : ∀ j u, c[j]? = some u → w.cell? (ad.add ((kk : Int).toNat * 1 + j)) = some u := hc0
      obtain ⟨A1, c1, rfl, hl1, hC1⟩ := hK
      subst ea
      have h0 := hq 0 _ rfl
      rw [Nat.mul_one, Nat.add_zero] at h0
      have hrd : l0.getD (kk : Int).toNat [] = l0[kk] := by simp [hlt]
      rw [hrd] at h0 hl1 hC1
      clear hq hc0
      replace h0 := (HB.out.cell (World.block_lt_of_cell? w _ h0)).trans h0
      simp only [Int.toNat_natCast] at h0
      have hcall := HC.out l0[kk] (List.getElem_mem hlt) A1 c1 wr HB.out (Kd.C_below hC1 HB.out) hl1
      clear hrd hl1 hC1
      generalize hx : l0[kk] = x at h0 hcall
      have X := Aside0.mk hx
      clear hx
      cases hq : p x with
      | true =>
        rw [hq] at hcall
        go_wp2_with (go_at_call 53; refine hcall.mono ?_; rintro e w' ⟨rfl, hb'⟩)
        go_roundg (l0.length - (kk + 1))
        case measure => omega
        case rel =>
          refine ⟨kk + 1, by omega, by omega, by go_num, ⟨below_step HB.out hb'⟩, ⟨fun j hj hl => ?_⟩⟩
          by_cases e : j = kk
          · subst e
            rw [X.out]; exact hq
          · exact A.out j (by omega) hl
      | false =>
        rw [hq] at hcall
        go_wp2_with (go_at_call 53; refine hcall.mono ?_; rintro e w' ⟨rfl, hb'⟩)
        go_ret
        refine ⟨?_, below_step HB.out hb'⟩
        rw [idxN_hit p l0 kk hlt (by rw [X.out]; exact hq) (fun j hj => A.out j hj (by omega))]; rfl
    · have hltz : ¬ (kk : Int) < (l0.length : Int) := by omega
      have : kk = l0.length := by omega
      subst this
      go_wp2
      go_ret
      refine ⟨?_, HB.out⟩
      rw [idxN_miss p l0 (fun j hj => A.out j hj hj)]; rfl
set_option maxHeartbeats 8000000 in
theorem inOps.cont (p : List S80 → Bool) (B1 : Nat) (A0 : Option Addr) (c0 : Nat) (l0 : List (List S80)) (w : World) (hr0 : Kd.C (Kd.slice 80 k80) w A0 l0.length l0) (hc : ∀ x ∈ l0, ∀ (A : Option Addr) (c : Nat) (W : World), Below w.heap.size w W → k80.C W A x.length x → x.length ≤ c → Calls Try.prog 53 #[.slice A x.length c, .pointer (some ⟨B1, 0, none⟩)] W fun e W' => e = .returned (.bool (!(p x))) ∧ Below W.heap.size W W') :
    Calls Try.prog 52 #[.slice A0 l0.length c0, .func (.func 53) #[] #[.pointer (some ⟨B1, 0, none⟩)]] w fun e w' => e = .returned (.bool (!(l0.all p))) ∧ Below w.heap.size w w' := by
  have H := inOps.idx p B1 A0 c0 l0 w hr0 hc
  have E := Aside0.mk (idxN_all p l0)
  clear hr0 hc
  generalize idxN p l0 = r at H E
  go_enter Try.func52, Try.ntmps52
  go_wp2_with (go_at_call 58; refine H.mono ?_; rintro e w' ⟨rfl, hb'⟩)
  go_ret
  exact ⟨by rw [← E.out]; rfl, hb'⟩
set_option maxHeartbeats 8000000 in
theorem inTx.idx (p : List (List S80) → Bool) (B1 : Nat) (A0 : Option Addr) (c0 : Nat) (l0 : List (List (List S80))) (w : World) (hr0 : Kd.C (Kd.slice 61 (Kd.slice 80 k80)) w A0 l0.length l0) (hc : ∀ x ∈ l0, ∀ (A : Option Addr) (c : Nat) (W : World), Below w.heap.size w W → (Kd.slice 80 k80).C W A x.length x → x.length ≤ c → Calls Try.prog 38 #[.slice A x.length c, .pointer (some ⟨B1, 0, none⟩)] W fun e W' => e = .returned (.bool (!(p x))) ∧ Below W.heap.size W W') :
    Calls Try.prog 51 #[.slice A0 l0.length c0, .func (.func 38) #[] #[.pointer (some ⟨B1, 0, none⟩)]] w fun e w' => e = .returned (.int .i64 (idxN p l0)) ∧ Below w.heap.size w w' := by
  have hmax : l0.length ≤ 9223372036854775807 := Kd.C_max hr0
  have HR := Aside0.mk hr0
  have HC := Aside0.mk hc
  clear hr0 hc
  go_enter Try.func51, Try.ntmps51
  go_wp2
  go_loopg [5, 8] l0.length (fun gg _ s8 wr => ∃ kk : Nat, kk ≤ l0.length ∧ l0.length - kk ≤ gg ∧ s8 = .int .i64 kk ∧ Aside0 (Below w.heap.size w wr) ∧ Aside0 (∀ j (hj : j < kk) (hl : j < l0.length), p l0[j] = true))
  case atStart => exact ⟨0, Nat.zero_le _, by omega, rfl, ⟨Below.refl _ w⟩, ⟨fun j hj => absurd hj (Nat.not_lt_zero _)⟩⟩
  case round =>
    obtain ⟨kk, hkk, hg, rfl, HB, A⟩ := hrel
    by_cases hlt : kk < l0.length
    · have hltz : (kk : Int) < (l0.length : Int) := by omega
      obtain ⟨ad, c, ea, _, hK, hc0⟩ := Kd.C_get HR.out [] (kk : Int) (by omega) (by omega)
      have hq : ∀ j u, c[j]? = some u → w.cell? (ad.add ((kk : Int).toNat * 1 + j)) = some u := hc0
      obtain ⟨A1, c1, rfl, hl1, hC1⟩ := hK
      subst ea
      have h0 := hq 0 _ rfl
      rw [Nat.mul_one, Nat.add_zero] at h0
      have hrd : l0.getD (kk : Int).toNat [] = l0[kk] := by simp [hlt]
      rw [hrd] at h0 hl1 hC1
      clear hq hc0
      replace h0 := (HB.out.cell (World.block_lt_of_cell? w _ h0)).trans h0
      simp only [Int.toNat_natCast] at h0
      have hcall := HC.out l0[kk] (List.getElem_mem hlt) A1 c1 wr HB.out (Kd.C_below hC1 HB.out) hl1
      clear hrd hl1 hC1
      generalize hx : l0[kk] = x at h0 hcall
      have X := Aside0.mk hx
      clear hx
      cases hq : p x with
      | true =>
        rw [hq] at hcall
        go_wp2_with (go_at_call 38; refine hcall.mono ?_; rintro e w' ⟨rfl, hb'⟩)
        go_roundg (l0.length - (kk + 1))
        case measure => omega
        case rel =>
          refine ⟨kk + 1, by omega, by omega, by go_num, ⟨below_step HB.out hb'⟩, ⟨fun j hj hl => ?_⟩⟩
          by_cases e : j = kk
          · subst e
            rw [X.out]; exact hq
          · exact A.out j (by omega) hl
      | false =>
        rw [hq] at hcall
        go_wp2_with (go_at_call 38; refine hcall.mono ?_; rintro e w' ⟨rfl, hb'⟩)
        go_ret
        refine ⟨?_, below_step HB.out hb'⟩
        rw [idxN_hit p l0 kk hlt (by rw [X.out]; exact hq) (fun j hj => A.out j hj (by omega))]; rfl
    · have hltz : ¬ (kk : Int) < (l0.length : Int) := by omega
      have : kk = l0.length := by omega
      subst this
      go_wp2
      go_ret
      refine ⟨?_, HB.out⟩
      rw [idxN_miss p l0 (fun j hj => A.out j hj hj)]; rfl
set_option maxHeartbeats 8000000 in
theorem inTx.cont (p : List (List S80) → Bool) (B1 : Nat) (A0 : Option Addr) (c0 : Nat) (l0 : List (List (List S80))) (w : World) (hr0 : Kd.C (Kd.slice 61 (Kd.slice 80 k80)) w A0 l0.length l0) (hc : ∀ x ∈ l0, ∀ (A : Option Addr) (c : Nat) (W : World), Below w.heap.size w W → (Kd.slice 80 k80).C W A x.length x → x.length ≤ c → Calls Try.prog 38 #[.slice A x.length c, .pointer (some ⟨B1, 0, none⟩)] W fun e W' => e = .returned (.bool (!(p x))) ∧ Below W.heap.size W W') :
    Calls Try.prog 37 #[.slice A0 l0.length c0, .func (.func 38) #[] #[.pointer (some ⟨B1, 0, none⟩)]] w fun e w' => e = .returned (.bool (!(l0.all p))) ∧ Below w.heap.size w w' := by
  have H := inTx.idx p B1 A0 c0 l0 w hr0 hc
  have E := Aside0.mk (idxN_all p l0)
  clear hr0 hc
  generalize idxN p l0 = r at H E
  go_enter Try.func37, Try.ntmps37
  go_wp2_with (go_at_call 51; refine H.mono ?_; rintro e w' ⟨rfl, hb'⟩)
  go_ret
  exact ⟨by rw [← E.out]; rfl, hb'⟩
/-- Is a number from a least to a most one? -/
def small64.in (a b x : Int) : Bool := decide (a ≤ x) && decide (x ≤ b)
set_option maxHeartbeats 8000000 in
theorem small64.clo (a b x : Int) (B1 B2 : Nat) (w : World) (h1 : w.cell? ⟨B1, 0, none⟩ = some (.int .i64 a)) (h2 : w.cell? ⟨B2, 0, none⟩ = some (.int .i64 b)) :
    Calls Try.prog 48 #[.int .i64 x, .pointer (some ⟨B1, 0, none⟩), .pointer (some ⟨B2, 0, none⟩)] w fun e w' => e = .returned (.bool (!(small64.in a b x))) ∧ Below w.heap.size w w' := by
  have HB := Aside0.mk (Below.refl w.heap.size w)
  by_cases hx : x < a
  · have hxb : decide (x < a) = true := decide_eq_true hx
    have E : Aside0 (small64.in a b x = false) := ⟨by unfold small64.in; rw [decide_eq_false (by omega)]; rfl⟩
    rw [E.out]
    clear hx
    go_enter Try.func48, Try.ntmps48
    go_wp2
    go_ret
    exact ⟨by simp, HB.out⟩
  · have hxb : decide (x < a) = false := decide_eq_false hx
    by_cases hy : x > b
    · have hyb : decide (b < x) = true := decide_eq_true hy
      have E : Aside0 (small64.in a b x = false) := ⟨by unfold small64.in; rw [decide_eq_false (p := x ≤ b) (by omega), Bool.and_false]⟩
      rw [E.out]
      clear hx hy
      go_enter Try.func48, Try.ntmps48
      go_wp2
      go_ret
      exact ⟨by simp, HB.out⟩
    · have hyb : decide (b < x) = false := decide_eq_false (by omega)
      have E : Aside0 (small64.in a b x = true) := ⟨by unfold small64.in; rw [decide_eq_true (p := a ≤ x) (by omega), decide_eq_true (p := x ≤ b) (by omega)]; rfl⟩
      rw [E.out]
      clear hx hy
      go_enter Try.func48, Try.ntmps48
      go_wp2
      go_ret
      exact ⟨by simp, HB.out⟩
set_option maxHeartbeats 8000000 in
theorem small64.calls (a b : Int) (A0 : Option Addr) (c0 : Nat) (l0 : List Int) (w : World) (hr0 : Kd.C (Kd.int .i64) w A0 l0.length l0) :
    Calls Try.prog 35 #[.slice A0 l0.length c0, .int .i64 a, .int .i64 b] w fun e w' => e = .returned (.bool (l0.all (small64.in a b))) ∧ Below w.heap.size w w' := by
  have hb1 : Below w.heap.size w (w.alloc (.cells #[.int .i64 a] 2)) := (Below.refl _ w).alloc (Nat.le_refl _) _
  have hb2 : Below w.heap.size w ((w.alloc (.cells #[.int .i64 a] 2)).alloc (.cells #[.int .i64 b] 2)) := hb1.alloc (by simp) _
  have H := in64.cont (small64.in a b) w.heap.size (w.heap.size + 1) A0 c0 l0 ((w.alloc (.cells #[.int .i64 a] 2)).alloc (.cells #[.int .i64 b] 2)) (Kd.C_below hr0 hb2) (fun x _ W hW => small64.clo a b x w.heap.size (w.heap.size + 1) W ((hW.cell (by simp <;> omega)).trans (by simp)) ((hW.cell (by simp)).trans (by simp)))
  have HB := Aside0.mk hb2
  clear hr0 hb1 hb2
  generalize l0.all (small64.in a b) = r at H
  go_enter Try.func35, Try.ntmps35
  go_wp2_with (go_at_call 47; refine H.mono ?_; rintro e w' ⟨rfl, hb'⟩)
  go_ret
  exact ⟨by simp, HB.out.trans (hb'.mono HB.out.size)⟩
/-- Is a number from a least to a most one? -/
def smallT.in (a b x : Int) : Bool := decide (a ≤ x) && decide (x ≤ b)
set_option maxHeartbeats 8000000 in
theorem smallT.clo (a b x : Int) (B1 B2 : Nat) (w : World) (h1 : w.cell? ⟨B1, 0, none⟩ = some (.int .i64 a)) (h2 : w.cell? ⟨B2, 0, none⟩ = some (.int .i64 b)) :
    Calls Try.prog 50 #[.int .i64 x, .pointer (some ⟨B1, 0, none⟩), .pointer (some ⟨B2, 0, none⟩)] w fun e w' => e = .returned (.bool (!(smallT.in a b x))) ∧ Below w.heap.size w w' := by
  have HB := Aside0.mk (Below.refl w.heap.size w)
  by_cases hx : x < a
  · have hxb : decide (x < a) = true := decide_eq_true hx
    have E : Aside0 (smallT.in a b x = false) := ⟨by unfold smallT.in; rw [decide_eq_false (by omega)]; rfl⟩
    rw [E.out]
    clear hx
    go_enter Try.func50, Try.ntmps50
    go_wp2
    go_ret
    exact ⟨by simp, HB.out⟩
  · have hxb : decide (x < a) = false := decide_eq_false hx
    by_cases hy : x > b
    · have hyb : decide (b < x) = true := decide_eq_true hy
      have E : Aside0 (smallT.in a b x = false) := ⟨by unfold smallT.in; rw [decide_eq_false (p := x ≤ b) (by omega), Bool.and_false]⟩
      rw [E.out]
      clear hx hy
      go_enter Try.func50, Try.ntmps50
      go_wp2
      go_ret
      exact ⟨by simp, HB.out⟩
    · have hyb : decide (b < x) = false := decide_eq_false (by omega)
      have E : Aside0 (smallT.in a b x = true) := ⟨by unfold smallT.in; rw [decide_eq_true (p := a ≤ x) (by omega), decide_eq_true (p := x ≤ b) (by omega)]; rfl⟩
      rw [E.out]
      clear hx hy
      go_enter Try.func50, Try.ntmps50
      go_wp2
      go_ret
      exact ⟨by simp, HB.out⟩
set_option maxHeartbeats 8000000 in
theorem smallT.calls (a b : Int) (A0 : Option Addr) (c0 : Nat) (l0 : List Int) (w : World) (hr0 : Kd.C (Kd.int .i64) w A0 l0.length l0) :
    Calls Try.prog 36 #[.slice A0 l0.length c0, .int .i64 a, .int .i64 b] w fun e w' => e = .returned (.bool (l0.all (smallT.in a b))) ∧ Below w.heap.size w w' := by
  have hb1 : Below w.heap.size w (w.alloc (.cells #[.int .i64 a] 3)) := (Below.refl _ w).alloc (Nat.le_refl _) _
  have hb2 : Below w.heap.size w ((w.alloc (.cells #[.int .i64 a] 3)).alloc (.cells #[.int .i64 b] 3)) := hb1.alloc (by simp) _
  have H := inT.cont (smallT.in a b) w.heap.size (w.heap.size + 1) A0 c0 l0 ((w.alloc (.cells #[.int .i64 a] 3)).alloc (.cells #[.int .i64 b] 3)) (Kd.C_below hr0 hb2) (fun x _ W hW => smallT.clo a b x w.heap.size (w.heap.size + 1) W ((hW.cell (by simp <;> omega)).trans (by simp)) ((hW.cell (by simp)).trans (by simp)))
  have HB := Aside0.mk hb2
  clear hr0 hb1 hb2
  generalize l0.all (smallT.in a b) = r at H
  go_enter Try.func36, Try.ntmps36
  go_wp2_with (go_at_call 49; refine H.mono ?_; rintro e w' ⟨rfl, hb'⟩)
  go_ret
  exact ⟨by simp, HB.out.trans (hb'.mono HB.out.size)⟩
/-- May a thread's transactions be? -/
def rightB (n : Int) (l : List S80) : Bool := decide (1 ≤ l.length) && decide (l.length ≤ 8) && l.all (okB · n)
def txnsB (n : Int) (l : List (List S80)) : Bool := decide (l.length ≤ 6) && l.all (rightB n)
set_option maxHeartbeats 8000000 in
theorem txns.clo (n : Int) (B1 : Nat) (x : List S80) (A : Option Addr) (c : Nat) (w : World) (h1 : w.cell? ⟨B1, 0, none⟩ = some (.int .i64 n)) (hr : Kd.C k80 w A x.length x) (hc : x.length ≤ c) :
    Calls Try.prog 53 #[.slice A x.length c, .pointer (some ⟨B1, 0, none⟩)] w fun e w' => e = .returned (.bool (!(rightB n x))) ∧ Below w.heap.size w w' := by
  have H := lang_Right.calls A c x n (rightB n x) w hr hc rfl
  clear hr hc
  generalize rightB n x = r at H
  go_enter Try.func53, Try.ntmps53
  go_wp2_with (go_at_call 54; refine H.mono ?_; rintro e w' ⟨rfl, hb'⟩)
  go_ret
  exact ⟨rfl, hb'⟩
set_option maxHeartbeats 8000000 in
theorem txns.calls (n : Int) (A0 : Option Addr) (c0 : Nat) (l0 : List (List S80)) (w : World) (hr0 : Kd.C (Kd.slice 80 k80) w A0 l0.length l0) (hc0 : l0.length ≤ c0) :
    Calls Try.prog 39 #[.slice A0 l0.length c0, .int .i64 n] w fun e w' => e = .returned (.bool (txnsB n l0)) ∧ Below w.heap.size w w' := by
  have hb1 : Below w.heap.size w (w.alloc (.cells #[.int .i64 n] 3)) := (Below.refl _ w).alloc (Nat.le_refl _) _
  have H := inOps.cont (rightB n) w.heap.size A0 c0 l0 (w.alloc (.cells #[.int .i64 n] 3)) (Kd.C_below hr0 hb1) (fun x _ A c W hW hK hl => txns.clo n w.heap.size x A c W ((hW.cell (by simp)).trans (by simp)) hK hl)
  have HB := Aside0.mk hb1
  clear hr0 hb1
  by_cases h6 : l0.length ≤ 6
  · have e6 : decide ((l0.length : Int) ≤ 6) = true := decide_eq_true (by omega)
    have E : Aside0 (txnsB n l0 = l0.all (rightB n)) := ⟨by unfold txnsB; rw [decide_eq_true h6]; rfl⟩
    rw [E.out]
    clear h6
    generalize l0.all (rightB n) = r at H
    go_enter Try.func39, Try.ntmps39
    go_wp2_with (go_at_call 52; refine H.mono ?_; rintro e w' ⟨rfl, hb'⟩)
    go_ret
    exact ⟨by simp, HB.out.trans (hb'.mono HB.out.size)⟩
  · have e6 : decide ((l0.length : Int) ≤ 6) = false := decide_eq_false (by omega)
    have E : Aside0 (txnsB n l0 = false) := ⟨by unfold txnsB; rw [decide_eq_false h6]; rfl⟩
    rw [E.out]
    clear h6 H
    go_enter Try.func39, Try.ntmps39
    go_wp2
    go_ret
    exact ⟨by simp, HB.out⟩
set_option maxHeartbeats 8000000 in
theorem okC.clo (a0 a1 a2 a3 a4 a5 : Int) (B1 : Nat) (x : List (List S80)) (A : Option Addr) (c : Nat) (w : World) (h1 : w.cell? ⟨B1, 0, none⟩ = some (.int .i64 a0)) (hr : Kd.C (Kd.slice 80 k80) w A x.length x) (hc : x.length ≤ c) :
    Calls Try.prog 38 #[.slice A x.length c, .pointer (some ⟨B1, 0, none⟩)] w fun e w' => e = .returned (.bool (!(txnsB a0 x))) ∧ Below w.heap.size w w' := by
  have hu25 := Try.underlying25
  have H := txns.calls a0 A c x w hr hc
  clear hr hc
  generalize txnsB a0 x = r at H
  go_enter Try.func38, Try.ntmps38
  go_wp2_with (go_at_call 39; refine H.mono ?_; rintro e w' ⟨rfl, hb'⟩)
  go_ret
  exact ⟨rfl, hb'⟩
end Go.Proofs.Ythfkgnkojhocbaa.S
end
section
namespace Go.Proofs.Ythfkgnkojhocbaa.S
open Go Go.RowKit Go.Proofs.YthfkgnkojhocbaaW.PrintWords Go.Proofs.YthfkgnkojhocbaaW.PrintLast
set_option linter.unusedVariables false
set_option linter.unusedSimpArgs false
theorem new_blk1 (w : World) (o1 o2 : Obj) : ((w.alloc o1).alloc o2).heap[w.heap.size]? = some o1 := blk_alloc (blk_new w o1) o2
theorem new_blk2 (w : World) (o1 o2 : Obj) : ((w.alloc o1).alloc o2).heap[w.heap.size + 1]? = some o2 := by
  have h := blk_new (w.alloc o1) o2
  have e : (w.alloc o1).heap.size = w.heap.size + 1 := by simp
  rwa [e] at h
set_option maxHeartbeats 16000000 in
set_option maxRecDepth 100000 in
theorem okWalk (a0_0 a0_1 a0_2 a0_3 a0_4 a0_5 : Int) (A6 : Option Addr) (c6 : Nat) (l0_6 : List Int) (A7 : Option Addr) (c7 : Nat) (l0_7 : List Int) (A8 : Option Addr) (c8 : Nat) (l0_8 : List (List (List S80))) (A9 : Option Addr) (c9 : Nat) (l0_9 : List Int) (w : World) (b34 b35 b36 b37 : Bool)
    (H34 : ∀ W, Calls Try.prog 34 #[.agg #[.int .i64 a0_0, .int .i64 a0_1, .int .i64 a0_2, .int .i64 a0_3, .int .i64 a0_4, .int .i64 a0_5]] W fun e W' => e = .returned (.bool b34) ∧ Below W.heap.size W W')
    (H35 : ∀ W, Below w.heap.size w W → Calls Try.prog 35 #[.slice A6 l0_6.length c6, .int .i64 (-128), .int .i64 127] W fun e W' => e = .returned (.bool b35) ∧ Below W.heap.size W W')
    (H36 : ∀ W, Below w.heap.size w W → Calls Try.prog 36 #[.slice A9 l0_9.length c9, .int .i64 0, .int .i64 255] W fun e W' => e = .returned (.bool b36) ∧ Below W.heap.size W W')
    (H37 : ∀ W, Below w.heap.size w W → W.cell? ⟨w.heap.size + 1, 0, none⟩ = some (.int .i64 a0_0) → Calls Try.prog 37 #[.slice A8 l0_8.length c8, .func (.func 38) #[] #[.pointer (some ⟨w.heap.size + 1, 0, none⟩)]] W fun e W' => e = .returned (.bool (!b37)) ∧ Below W.heap.size W W')
    (hm6 : l0_6.length ≤ 9223372036854775807) (hm7 : l0_7.length ≤ 9223372036854775807) (hm8 : l0_8.length ≤ 9223372036854775807) :
    Calls Try.prog 17 #[.agg #[.int .i64 a0_0, .int .i64 a0_1, .int .i64 a0_2, .int .i64 a0_3, .int .i64 a0_4, .int .i64 a0_5, .slice A6 l0_6.length c6, .slice A7 l0_7.length c7, .slice A8 l0_8.length c8, .slice A9 l0_9.length c9]] w fun e w' => e = .returned (.bool (b34 && decide ((l0_6.length : Int) = a0_0) && decide (wrap64 (2 * a0_0) ≤ a0_2) && b35 && decide ((l0_8.length : Int) = a0_1) && decide ((l0_7.length : Int) ≤ 255) && b36 && b37)) ∧ Below w.heap.size w w' := by
  have hu25 := Try.underlying25
  have hu30 := Try.underlying30
  have G34 := Aside0.mk H34
  have G35 := Aside0.mk H35
  have G36 := Aside0.mk H36
  have G37 := Aside0.mk H37
  clear H34 H35 H36 H37
  cases b34 with
  | false =>
    have E : Aside0 ((false && decide ((l0_6.length : Int) = a0_0) && decide (wrap64 (2 * a0_0) ≤ a0_2) && b35 && decide ((l0_8.length : Int) = a0_1) && decide ((l0_7.length : Int) ≤ 255) && b36 && b37) = false) := ⟨by simp⟩
    rw [E.out]
    go_enter Try.func17, Try.ntmps17
    go_upto_region 2 with (fail)
    have hb := below_alloc (below_alloc (Below.refl w.heap.size w) (.cells #[.int .i64 a0_0, .int .i64 a0_1, .int .i64 a0_2, .int .i64 a0_3, .int .i64 a0_4, .int .i64 a0_5, .slice A6 l0_6.length c6, .slice A7 l0_7.length c7, .slice A8 l0_8.length c8, .slice A9 l0_9.length c9] 30)) (.cells #[.int .i64 a0_0, .int .i64 a0_1, .int .i64 a0_2, .int .i64 a0_3, .int .i64 a0_4, .int .i64 a0_5] 25)
    have bs : ((w.alloc (.cells #[.int .i64 a0_0, .int .i64 a0_1, .int .i64 a0_2, .int .i64 a0_3, .int .i64 a0_4, .int .i64 a0_5, .slice A6 l0_6.length c6, .slice A7 l0_7.length c7, .slice A8 l0_8.length c8, .slice A9 l0_9.length c9] 30)).alloc (.cells #[.int .i64 a0_0, .int .i64 a0_1, .int .i64 a0_2, .int .i64 a0_3, .int .i64 a0_4, .int .i64 a0_5] 25)).heap[w.heap.size]? = some (.cells #[.int .i64 a0_0, .int .i64 a0_1, .int .i64 a0_2, .int .i64 a0_3, .int .i64 a0_4, .int .i64 a0_5, .slice A6 l0_6.length c6, .slice A7 l0_7.length c7, .slice A8 l0_8.length c8, .slice A9 l0_9.length c9] 30 (0, 0)) := new_blk1 w _ _
    have bc : ((w.alloc (.cells #[.int .i64 a0_0, .int .i64 a0_1, .int .i64 a0_2, .int .i64 a0_3, .int .i64 a0_4, .int .i64 a0_5, .slice A6 l0_6.length c6, .slice A7 l0_7.length c7, .slice A8 l0_8.length c8, .slice A9 l0_9.length c9] 30)).alloc (.cells #[.int .i64 a0_0, .int .i64 a0_1, .int .i64 a0_2, .int .i64 a0_3, .int .i64 a0_4, .int .i64 a0_5] 25)).heap[w.heap.size + 1]? = some (.cells #[.int .i64 a0_0, .int .i64 a0_1, .int .i64 a0_2, .int .i64 a0_3, .int .i64 a0_4, .int .i64 a0_5] 25 (0, 0)) := new_blk2 w _ _
    generalize ((w.alloc (.cells #[.int .i64 a0_0, .int .i64 a0_1, .int .i64 a0_2, .int .i64 a0_3, .int .i64 a0_4, .int .i64 a0_5, .slice A6 l0_6.length c6, .slice A7 l0_7.length c7, .slice A8 l0_8.length c8, .slice A9 l0_9.length c9] 30)).alloc (.cells #[.int .i64 a0_0, .int .i64 a0_1, .int .i64 a0_2, .int .i64 a0_3, .int .i64 a0_4, .int .i64 a0_5] 25)) = w2 at hb bs bc ⊢
    have HB2 := Aside0.mk hb
    have BS2 := Aside0.mk bs
    have BC2 := Aside0.mk bc
    clear hb bs bc
    have ks2_6 : World.cell? w2 ⟨w.heap.size, 6, none⟩ = some (.slice A6 l0_6.length c6) := (blk_cell BS2.out 6).trans rfl
    have ks2_7 : World.cell? w2 ⟨w.heap.size, 7, none⟩ = some (.slice A7 l0_7.length c7) := (blk_cell BS2.out 7).trans rfl
    have ks2_8 : World.cell? w2 ⟨w.heap.size, 8, none⟩ = some (.slice A8 l0_8.length c8) := (blk_cell BS2.out 8).trans rfl
    have ks2_9 : World.cell? w2 ⟨w.heap.size, 9, none⟩ = some (.slice A9 l0_9.length c9) := (blk_cell BS2.out 9).trans rfl
    have kc2_0 : World.cell? w2 ⟨w.heap.size + 1, 0, none⟩ = some (.int .i64 a0_0) := (blk_cell BC2.out 0).trans rfl
    have kc2_1 : World.cell? w2 ⟨w.heap.size + 1, 1, none⟩ = some (.int .i64 a0_1) := (blk_cell BC2.out 1).trans rfl
    have kc2_2 : World.cell? w2 ⟨w.heap.size + 1, 2, none⟩ = some (.int .i64 a0_2) := (blk_cell BC2.out 2).trans rfl
    have kc2_3 : World.cell? w2 ⟨w.heap.size + 1, 3, none⟩ = some (.int .i64 a0_3) := (blk_cell BC2.out 3).trans rfl
    have kc2_4 : World.cell? w2 ⟨w.heap.size + 1, 4, none⟩ = some (.int .i64 a0_4) := (blk_cell BC2.out 4).trans rfl
    have kc2_5 : World.cell? w2 ⟨w.heap.size + 1, 5, none⟩ = some (.int .i64 a0_5) := (blk_cell BC2.out 5).trans rfl
    go_wp2_with (first | (go_at_call 34; refine (G34.out w2).mono ?_; rintro e w3 ⟨rfl, hb⟩; have HB3 := Aside0.mk (below_step HB2.out hb); have BS3 := Aside0.mk (blk_below BS2.out hb); have BC3 := Aside0.mk (blk_below BC2.out hb); clear hb; clear ks2_6 ks2_7 ks2_8 ks2_9 kc2_0 kc2_1 kc2_2 kc2_3 kc2_4 kc2_5; have ks3_6 : World.cell? w3 ⟨w.heap.size, 6, none⟩ = some (.slice A6 l0_6.length c6) := (blk_cell BS3.out 6).trans rfl; have ks3_7 : World.cell? w3 ⟨w.heap.size, 7, none⟩ = some (.slice A7 l0_7.length c7) := (blk_cell BS3.out 7).trans rfl; have ks3_8 : World.cell? w3 ⟨w.heap.size, 8, none⟩ = some (.slice A8 l0_8.length c8) := (blk_cell BS3.out 8).trans rfl; have ks3_9 : World.cell? w3 ⟨w.heap.size, 9, none⟩ = some (.slice A9 l0_9.length c9) := (blk_cell BS3.out 9).trans rfl; have kc3_0 : World.cell? w3 ⟨w.heap.size + 1, 0, none⟩ = some (.int .i64 a0_0) := (blk_cell BC3.out 0).trans rfl; have kc3_1 : World.cell? w3 ⟨w.heap.size + 1, 1, none⟩ = some (.int .i64 a0_1) := (blk_cell BC3.out 1).trans rfl; have kc3_2 : World.cell? w3 ⟨w.heap.size + 1, 2, none⟩ = some (.int .i64 a0_2) := (blk_cell BC3.out 2).trans rfl; have kc3_3 : World.cell? w3 ⟨w.heap.size + 1, 3, none⟩ = some (.int .i64 a0_3) := (blk_cell BC3.out 3).trans rfl; have kc3_4 : World.cell? w3 ⟨w.heap.size + 1, 4, none⟩ = some (.int .i64 a0_4) := (blk_cell BC3.out 4).trans rfl; have kc3_5 : World.cell? w3 ⟨w.heap.size + 1, 5, none⟩ = some (.int .i64 a0_5) := (blk_cell BC3.out 5).trans rfl))
    go_ret
    exact ⟨by simp, HB3.out⟩
  | true =>
    by_cases h_len6 : (l0_6.length : Int) = a0_0
    rotate_left
    · have f_len6 : ((l0_6.length : Int) == a0_0) = false := beq_false_of_ne h_len6
      have g_len6 : decide ((l0_6.length : Int) = a0_0) = false := decide_eq_false h_len6
      clear h_len6
      have E : Aside0 ((true && decide ((l0_6.length : Int) = a0_0) && decide (wrap64 (2 * a0_0) ≤ a0_2) && b35 && decide ((l0_8.length : Int) = a0_1) && decide ((l0_7.length : Int) ≤ 255) && b36 && b37) = false) := ⟨by rw [g_len6]; simp⟩
      rw [E.out]
      go_enter Try.func17, Try.ntmps17
      go_upto_region 2 with (fail)
      have hb := below_alloc (below_alloc (Below.refl w.heap.size w) (.cells #[.int .i64 a0_0, .int .i64 a0_1, .int .i64 a0_2, .int .i64 a0_3, .int .i64 a0_4, .int .i64 a0_5, .slice A6 l0_6.length c6, .slice A7 l0_7.length c7, .slice A8 l0_8.length c8, .slice A9 l0_9.length c9] 30)) (.cells #[.int .i64 a0_0, .int .i64 a0_1, .int .i64 a0_2, .int .i64 a0_3, .int .i64 a0_4, .int .i64 a0_5] 25)
      have bs : ((w.alloc (.cells #[.int .i64 a0_0, .int .i64 a0_1, .int .i64 a0_2, .int .i64 a0_3, .int .i64 a0_4, .int .i64 a0_5, .slice A6 l0_6.length c6, .slice A7 l0_7.length c7, .slice A8 l0_8.length c8, .slice A9 l0_9.length c9] 30)).alloc (.cells #[.int .i64 a0_0, .int .i64 a0_1, .int .i64 a0_2, .int .i64 a0_3, .int .i64 a0_4, .int .i64 a0_5] 25)).heap[w.heap.size]? = some (.cells #[.int .i64 a0_0, .int .i64 a0_1, .int .i64 a0_2, .int .i64 a0_3, .int .i64 a0_4, .int .i64 a0_5, .slice A6 l0_6.length c6, .slice A7 l0_7.length c7, .slice A8 l0_8.length c8, .slice A9 l0_9.length c9] 30 (0, 0)) := new_blk1 w _ _
      have bc : ((w.alloc (.cells #[.int .i64 a0_0, .int .i64 a0_1, .int .i64 a0_2, .int .i64 a0_3, .int .i64 a0_4, .int .i64 a0_5, .slice A6 l0_6.length c6, .slice A7 l0_7.length c7, .slice A8 l0_8.length c8, .slice A9 l0_9.length c9] 30)).alloc (.cells #[.int .i64 a0_0, .int .i64 a0_1, .int .i64 a0_2, .int .i64 a0_3, .int .i64 a0_4, .int .i64 a0_5] 25)).heap[w.heap.size + 1]? = some (.cells #[.int .i64 a0_0, .int .i64 a0_1, .int .i64 a0_2, .int .i64 a0_3, .int .i64 a0_4, .int .i64 a0_5] 25 (0, 0)) := new_blk2 w _ _
      generalize ((w.alloc (.cells #[.int .i64 a0_0, .int .i64 a0_1, .int .i64 a0_2, .int .i64 a0_3, .int .i64 a0_4, .int .i64 a0_5, .slice A6 l0_6.length c6, .slice A7 l0_7.length c7, .slice A8 l0_8.length c8, .slice A9 l0_9.length c9] 30)).alloc (.cells #[.int .i64 a0_0, .int .i64 a0_1, .int .i64 a0_2, .int .i64 a0_3, .int .i64 a0_4, .int .i64 a0_5] 25)) = w2 at hb bs bc ⊢
      have HB2 := Aside0.mk hb
      have BS2 := Aside0.mk bs
      have BC2 := Aside0.mk bc
      clear hb bs bc
      have ks2_6 : World.cell? w2 ⟨w.heap.size, 6, none⟩ = some (.slice A6 l0_6.length c6) := (blk_cell BS2.out 6).trans rfl
      have ks2_7 : World.cell? w2 ⟨w.heap.size, 7, none⟩ = some (.slice A7 l0_7.length c7) := (blk_cell BS2.out 7).trans rfl
      have ks2_8 : World.cell? w2 ⟨w.heap.size, 8, none⟩ = some (.slice A8 l0_8.length c8) := (blk_cell BS2.out 8).trans rfl
      have ks2_9 : World.cell? w2 ⟨w.heap.size, 9, none⟩ = some (.slice A9 l0_9.length c9) := (blk_cell BS2.out 9).trans rfl
      have kc2_0 : World.cell? w2 ⟨w.heap.size + 1, 0, none⟩ = some (.int .i64 a0_0) := (blk_cell BC2.out 0).trans rfl
      have kc2_1 : World.cell? w2 ⟨w.heap.size + 1, 1, none⟩ = some (.int .i64 a0_1) := (blk_cell BC2.out 1).trans rfl
      have kc2_2 : World.cell? w2 ⟨w.heap.size + 1, 2, none⟩ = some (.int .i64 a0_2) := (blk_cell BC2.out 2).trans rfl
      have kc2_3 : World.cell? w2 ⟨w.heap.size + 1, 3, none⟩ = some (.int .i64 a0_3) := (blk_cell BC2.out 3).trans rfl
      have kc2_4 : World.cell? w2 ⟨w.heap.size + 1, 4, none⟩ = some (.int .i64 a0_4) := (blk_cell BC2.out 4).trans rfl
      have kc2_5 : World.cell? w2 ⟨w.heap.size + 1, 5, none⟩ = some (.int .i64 a0_5) := (blk_cell BC2.out 5).trans rfl
      go_wp2_with (first | (go_at_call 34; refine (G34.out w2).mono ?_; rintro e w3 ⟨rfl, hb⟩; have HB3 := Aside0.mk (below_step HB2.out hb); have BS3 := Aside0.mk (blk_below BS2.out hb); have BC3 := Aside0.mk (blk_below BC2.out hb); clear hb; clear ks2_6 ks2_7 ks2_8 ks2_9 kc2_0 kc2_1 kc2_2 kc2_3 kc2_4 kc2_5; have ks3_6 : World.cell? w3 ⟨w.heap.size, 6, none⟩ = some (.slice A6 l0_6.length c6) := (blk_cell BS3.out 6).trans rfl; have ks3_7 : World.cell? w3 ⟨w.heap.size, 7, none⟩ = some (.slice A7 l0_7.length c7) := (blk_cell BS3.out 7).trans rfl; have ks3_8 : World.cell? w3 ⟨w.heap.size, 8, none⟩ = some (.slice A8 l0_8.length c8) := (blk_cell BS3.out 8).trans rfl; have ks3_9 : World.cell? w3 ⟨w.heap.size, 9, none⟩ = some (.slice A9 l0_9.length c9) := (blk_cell BS3.out 9).trans rfl; have kc3_0 : World.cell? w3 ⟨w.heap.size + 1, 0, none⟩ = some (.int .i64 a0_0) := (blk_cell BC3.out 0).trans rfl; have kc3_1 : World.cell? w3 ⟨w.heap.size + 1, 1, none⟩ = some (.int .i64 a0_1) := (blk_cell BC3.out 1).trans rfl; have kc3_2 : World.cell? w3 ⟨w.heap.size + 1, 2, none⟩ = some (.int .i64 a0_2) := (blk_cell BC3.out 2).trans rfl; have kc3_3 : World.cell? w3 ⟨w.heap.size + 1, 3, none⟩ = some (.int .i64 a0_3) := (blk_cell BC3.out 3).trans rfl; have kc3_4 : World.cell? w3 ⟨w.heap.size + 1, 4, none⟩ = some (.int .i64 a0_4) := (blk_cell BC3.out 4).trans rfl; have kc3_5 : World.cell? w3 ⟨w.heap.size + 1, 5, none⟩ = some (.int .i64 a0_5) := (blk_cell BC3.out 5).trans rfl))
      go_ret
      exact ⟨by simp, HB3.out⟩
    have f_len6 : ((l0_6.length : Int) == a0_0) = true := beq_iff_eq.2 h_len6
    have g_len6 : decide ((l0_6.length : Int) = a0_0) = true := decide_eq_true h_len6
    clear h_len6
    by_cases h_rec : wrap64 (2 * a0_0) ≤ a0_2
    rotate_left
    · have g_rec : decide (wrap64 (2 * a0_0) ≤ a0_2) = false := decide_eq_false h_rec
      clear h_rec
      have E : Aside0 ((true && decide ((l0_6.length : Int) = a0_0) && decide (wrap64 (2 * a0_0) ≤ a0_2) && b35 && decide ((l0_8.length : Int) = a0_1) && decide ((l0_7.length : Int) ≤ 255) && b36 && b37) = false) := ⟨by rw [g_len6, g_rec]; simp⟩
      rw [E.out]
      go_enter Try.func17, Try.ntmps17
      go_upto_region 2 with (fail)
      have hb := below_alloc (below_alloc (Below.refl w.heap.size w) (.cells #[.int .i64 a0_0, .int .i64 a0_1, .int .i64 a0_2, .int .i64 a0_3, .int .i64 a0_4, .int .i64 a0_5, .slice A6 l0_6.length c6, .slice A7 l0_7.length c7, .slice A8 l0_8.length c8, .slice A9 l0_9.length c9] 30)) (.cells #[.int .i64 a0_0, .int .i64 a0_1, .int .i64 a0_2, .int .i64 a0_3, .int .i64 a0_4, .int .i64 a0_5] 25)
      have bs : ((w.alloc (.cells #[.int .i64 a0_0, .int .i64 a0_1, .int .i64 a0_2, .int .i64 a0_3, .int .i64 a0_4, .int .i64 a0_5, .slice A6 l0_6.length c6, .slice A7 l0_7.length c7, .slice A8 l0_8.length c8, .slice A9 l0_9.length c9] 30)).alloc (.cells #[.int .i64 a0_0, .int .i64 a0_1, .int .i64 a0_2, .int .i64 a0_3, .int .i64 a0_4, .int .i64 a0_5] 25)).heap[w.heap.size]? = some (.cells #[.int .i64 a0_0, .int .i64 a0_1, .int .i64 a0_2, .int .i64 a0_3, .int .i64 a0_4, .int .i64 a0_5, .slice A6 l0_6.length c6, .slice A7 l0_7.length c7, .slice A8 l0_8.length c8, .slice A9 l0_9.length c9] 30 (0, 0)) := new_blk1 w _ _
      have bc : ((w.alloc (.cells #[.int .i64 a0_0, .int .i64 a0_1, .int .i64 a0_2, .int .i64 a0_3, .int .i64 a0_4, .int .i64 a0_5, .slice A6 l0_6.length c6, .slice A7 l0_7.length c7, .slice A8 l0_8.length c8, .slice A9 l0_9.length c9] 30)).alloc (.cells #[.int .i64 a0_0, .int .i64 a0_1, .int .i64 a0_2, .int .i64 a0_3, .int .i64 a0_4, .int .i64 a0_5] 25)).heap[w.heap.size + 1]? = some (.cells #[.int .i64 a0_0, .int .i64 a0_1, .int .i64 a0_2, .int .i64 a0_3, .int .i64 a0_4, .int .i64 a0_5] 25 (0, 0)) := new_blk2 w _ _
      generalize ((w.alloc (.cells #[.int .i64 a0_0, .int .i64 a0_1, .int .i64 a0_2, .int .i64 a0_3, .int .i64 a0_4, .int .i64 a0_5, .slice A6 l0_6.length c6, .slice A7 l0_7.length c7, .slice A8 l0_8.length c8, .slice A9 l0_9.length c9] 30)).alloc (.cells #[.int .i64 a0_0, .int .i64 a0_1, .int .i64 a0_2, .int .i64 a0_3, .int .i64 a0_4, .int .i64 a0_5] 25)) = w2 at hb bs bc ⊢
      have HB2 := Aside0.mk hb
      have BS2 := Aside0.mk bs
      have BC2 := Aside0.mk bc
      clear hb bs bc
      have ks2_6 : World.cell? w2 ⟨w.heap.size, 6, none⟩ = some (.slice A6 l0_6.length c6) := (blk_cell BS2.out 6).trans rfl
      have ks2_7 : World.cell? w2 ⟨w.heap.size, 7, none⟩ = some (.slice A7 l0_7.length c7) := (blk_cell BS2.out 7).trans rfl
      have ks2_8 : World.cell? w2 ⟨w.heap.size, 8, none⟩ = some (.slice A8 l0_8.length c8) := (blk_cell BS2.out 8).trans rfl
      have ks2_9 : World.cell? w2 ⟨w.heap.size, 9, none⟩ = some (.slice A9 l0_9.length c9) := (blk_cell BS2.out 9).trans rfl
      have kc2_0 : World.cell? w2 ⟨w.heap.size + 1, 0, none⟩ = some (.int .i64 a0_0) := (blk_cell BC2.out 0).trans rfl
      have kc2_1 : World.cell? w2 ⟨w.heap.size + 1, 1, none⟩ = some (.int .i64 a0_1) := (blk_cell BC2.out 1).trans rfl
      have kc2_2 : World.cell? w2 ⟨w.heap.size + 1, 2, none⟩ = some (.int .i64 a0_2) := (blk_cell BC2.out 2).trans rfl
      have kc2_3 : World.cell? w2 ⟨w.heap.size + 1, 3, none⟩ = some (.int .i64 a0_3) := (blk_cell BC2.out 3).trans rfl
      have kc2_4 : World.cell? w2 ⟨w.heap.size + 1, 4, none⟩ = some (.int .i64 a0_4) := (blk_cell BC2.out 4).trans rfl
      have kc2_5 : World.cell? w2 ⟨w.heap.size + 1, 5, none⟩ = some (.int .i64 a0_5) := (blk_cell BC2.out 5).trans rfl
      go_wp2_with (first | (go_at_call 34; refine (G34.out w2).mono ?_; rintro e w3 ⟨rfl, hb⟩; have HB3 := Aside0.mk (below_step HB2.out hb); have BS3 := Aside0.mk (blk_below BS2.out hb); have BC3 := Aside0.mk (blk_below BC2.out hb); clear hb; clear ks2_6 ks2_7 ks2_8 ks2_9 kc2_0 kc2_1 kc2_2 kc2_3 kc2_4 kc2_5; have ks3_6 : World.cell? w3 ⟨w.heap.size, 6, none⟩ = some (.slice A6 l0_6.length c6) := (blk_cell BS3.out 6).trans rfl; have ks3_7 : World.cell? w3 ⟨w.heap.size, 7, none⟩ = some (.slice A7 l0_7.length c7) := (blk_cell BS3.out 7).trans rfl; have ks3_8 : World.cell? w3 ⟨w.heap.size, 8, none⟩ = some (.slice A8 l0_8.length c8) := (blk_cell BS3.out 8).trans rfl; have ks3_9 : World.cell? w3 ⟨w.heap.size, 9, none⟩ = some (.slice A9 l0_9.length c9) := (blk_cell BS3.out 9).trans rfl; have kc3_0 : World.cell? w3 ⟨w.heap.size + 1, 0, none⟩ = some (.int .i64 a0_0) := (blk_cell BC3.out 0).trans rfl; have kc3_1 : World.cell? w3 ⟨w.heap.size + 1, 1, none⟩ = some (.int .i64 a0_1) := (blk_cell BC3.out 1).trans rfl; have kc3_2 : World.cell? w3 ⟨w.heap.size + 1, 2, none⟩ = some (.int .i64 a0_2) := (blk_cell BC3.out 2).trans rfl; have kc3_3 : World.cell? w3 ⟨w.heap.size + 1, 3, none⟩ = some (.int .i64 a0_3) := (blk_cell BC3.out 3).trans rfl; have kc3_4 : World.cell? w3 ⟨w.heap.size + 1, 4, none⟩ = some (.int .i64 a0_4) := (blk_cell BC3.out 4).trans rfl; have kc3_5 : World.cell? w3 ⟨w.heap.size + 1, 5, none⟩ = some (.int .i64 a0_5) := (blk_cell BC3.out 5).trans rfl))
      go_ret
      exact ⟨by simp, HB3.out⟩
    have g_rec : decide (wrap64 (2 * a0_0) ≤ a0_2) = true := decide_eq_true h_rec
    clear h_rec
    cases b35 with
    | false =>
      have E : Aside0 ((true && decide ((l0_6.length : Int) = a0_0) && decide (wrap64 (2 * a0_0) ≤ a0_2) && false && decide ((l0_8.length : Int) = a0_1) && decide ((l0_7.length : Int) ≤ 255) && b36 && b37) = false) := ⟨by rw [g_len6, g_rec]; simp⟩
      rw [E.out]
      go_enter Try.func17, Try.ntmps17
      go_upto_region 2 with (fail)
      have hb := below_alloc (below_alloc (Below.refl w.heap.size w) (.cells #[.int .i64 a0_0, .int .i64 a0_1, .int .i64 a0_2, .int .i64 a0_3, .int .i64 a0_4, .int .i64 a0_5, .slice A6 l0_6.length c6, .slice A7 l0_7.length c7, .slice A8 l0_8.length c8, .slice A9 l0_9.length c9] 30)) (.cells #[.int .i64 a0_0, .int .i64 a0_1, .int .i64 a0_2, .int .i64 a0_3, .int .i64 a0_4, .int .i64 a0_5] 25)
      have bs : ((w.alloc (.cells #[.int .i64 a0_0, .int .i64 a0_1, .int .i64 a0_2, .int .i64 a0_3, .int .i64 a0_4, .int .i64 a0_5, .slice A6 l0_6.length c6, .slice A7 l0_7.length c7, .slice A8 l0_8.length c8, .slice A9 l0_9.length c9] 30)).alloc (.cells #[.int .i64 a0_0, .int .i64 a0_1, .int .i64 a0_2, .int .i64 a0_3, .int .i64 a0_4, .int .i64 a0_5] 25)).heap[w.heap.size]? = some (.cells #[.int .i64 a0_0, .int .i64 a0_1, .int .i64 a0_2, .int .i64 a0_3, .int .i64 a0_4, .int .i64 a0_5, .slice A6 l0_6.length c6, .slice A7 l0_7.length c7, .slice A8 l0_8.length c8, .slice A9 l0_9.length c9] 30 (0, 0)) := new_blk1 w _ _
      have bc : ((w.alloc (.cells #[.int .i64 a0_0, .int .i64 a0_1, .int .i64 a0_2, .int .i64 a0_3, .int .i64 a0_4, .int .i64 a0_5, .slice A6 l0_6.length c6, .slice A7 l0_7.length c7, .slice A8 l0_8.length c8, .slice A9 l0_9.length c9] 30)).alloc (.cells #[.int .i64 a0_0, .int .i64 a0_1, .int .i64 a0_2, .int .i64 a0_3, .int .i64 a0_4, .int .i64 a0_5] 25)).heap[w.heap.size + 1]? = some (.cells #[.int .i64 a0_0, .int .i64 a0_1, .int .i64 a0_2, .int .i64 a0_3, .int .i64 a0_4, .int .i64 a0_5] 25 (0, 0)) := new_blk2 w _ _
      generalize ((w.alloc (.cells #[.int .i64 a0_0, .int .i64 a0_1, .int .i64 a0_2, .int .i64 a0_3, .int .i64 a0_4, .int .i64 a0_5, .slice A6 l0_6.length c6, .slice A7 l0_7.length c7, .slice A8 l0_8.length c8, .slice A9 l0_9.length c9] 30)).alloc (.cells #[.int .i64 a0_0, .int .i64 a0_1, .int .i64 a0_2, .int .i64 a0_3, .int .i64 a0_4, .int .i64 a0_5] 25)) = w2 at hb bs bc ⊢
      have HB2 := Aside0.mk hb
      have BS2 := Aside0.mk bs
      have BC2 := Aside0.mk bc
      clear hb bs bc
      have ks2_6 : World.cell? w2 ⟨w.heap.size, 6, none⟩ = some (.slice A6 l0_6.length c6) := (blk_cell BS2.out 6).trans rfl
      have ks2_7 : World.cell? w2 ⟨w.heap.size, 7, none⟩ = some (.slice A7 l0_7.length c7) := (blk_cell BS2.out 7).trans rfl
      have ks2_8 : World.cell? w2 ⟨w.heap.size, 8, none⟩ = some (.slice A8 l0_8.length c8) := (blk_cell BS2.out 8).trans rfl
      have ks2_9 : World.cell? w2 ⟨w.heap.size, 9, none⟩ = some (.slice A9 l0_9.length c9) := (blk_cell BS2.out 9).trans rfl
      have kc2_0 : World.cell? w2 ⟨w.heap.size + 1, 0, none⟩ = some (.int .i64 a0_0) := (blk_cell BC2.out 0).trans rfl
      have kc2_1 : World.cell? w2 ⟨w.heap.size + 1, 1, none⟩ = some (.int .i64 a0_1) := (blk_cell BC2.out 1).trans rfl
      have kc2_2 : World.cell? w2 ⟨w.heap.size + 1, 2, none⟩ = some (.int .i64 a0_2) := (blk_cell BC2.out 2).trans rfl
      have kc2_3 : World.cell? w2 ⟨w.heap.size + 1, 3, none⟩ = some (.int .i64 a0_3) := (blk_cell BC2.out 3).trans rfl
      have kc2_4 : World.cell? w2 ⟨w.heap.size + 1, 4, none⟩ = some (.int .i64 a0_4) := (blk_cell BC2.out 4).trans rfl
      have kc2_5 : World.cell? w2 ⟨w.heap.size + 1, 5, none⟩ = some (.int .i64 a0_5) := (blk_cell BC2.out 5).trans rfl
      go_wp2_with (first | (go_at_call 34; refine (G34.out w2).mono ?_; rintro e w3 ⟨rfl, hb⟩; have HB3 := Aside0.mk (below_step HB2.out hb); have BS3 := Aside0.mk (blk_below BS2.out hb); have BC3 := Aside0.mk (blk_below BC2.out hb); clear hb; clear ks2_6 ks2_7 ks2_8 ks2_9 kc2_0 kc2_1 kc2_2 kc2_3 kc2_4 kc2_5; have ks3_6 : World.cell? w3 ⟨w.heap.size, 6, none⟩ = some (.slice A6 l0_6.length c6) := (blk_cell BS3.out 6).trans rfl; have ks3_7 : World.cell? w3 ⟨w.heap.size, 7, none⟩ = some (.slice A7 l0_7.length c7) := (blk_cell BS3.out 7).trans rfl; have ks3_8 : World.cell? w3 ⟨w.heap.size, 8, none⟩ = some (.slice A8 l0_8.length c8) := (blk_cell BS3.out 8).trans rfl; have ks3_9 : World.cell? w3 ⟨w.heap.size, 9, none⟩ = some (.slice A9 l0_9.length c9) := (blk_cell BS3.out 9).trans rfl; have kc3_0 : World.cell? w3 ⟨w.heap.size + 1, 0, none⟩ = some (.int .i64 a0_0) := (blk_cell BC3.out 0).trans rfl; have kc3_1 : World.cell? w3 ⟨w.heap.size + 1, 1, none⟩ = some (.int .i64 a0_1) := (blk_cell BC3.out 1).trans rfl; have kc3_2 : World.cell? w3 ⟨w.heap.size + 1, 2, none⟩ = some (.int .i64 a0_2) := (blk_cell BC3.out 2).trans rfl; have kc3_3 : World.cell? w3 ⟨w.heap.size + 1, 3, none⟩ = some (.int .i64 a0_3) := (blk_cell BC3.out 3).trans rfl; have kc3_4 : World.cell? w3 ⟨w.heap.size + 1, 4, none⟩ = some (.int .i64 a0_4) := (blk_cell BC3.out 4).trans rfl; have kc3_5 : World.cell? w3 ⟨w.heap.size + 1, 5, none⟩ = some (.int .i64 a0_5) := (blk_cell BC3.out 5).trans rfl) | (go_at_call 35; refine (G35.out w3 HB3.out).mono ?_; rintro e w4 ⟨rfl, hb⟩; have HB4 := Aside0.mk (below_step HB3.out hb); have BS4 := Aside0.mk (blk_below BS3.out hb); have BC4 := Aside0.mk (blk_below BC3.out hb); clear hb; clear ks3_6 ks3_7 ks3_8 ks3_9 kc3_0 kc3_1 kc3_2 kc3_3 kc3_4 kc3_5; have ks4_6 : World.cell? w4 ⟨w.heap.size, 6, none⟩ = some (.slice A6 l0_6.length c6) := (blk_cell BS4.out 6).trans rfl; have ks4_7 : World.cell? w4 ⟨w.heap.size, 7, none⟩ = some (.slice A7 l0_7.length c7) := (blk_cell BS4.out 7).trans rfl; have ks4_8 : World.cell? w4 ⟨w.heap.size, 8, none⟩ = some (.slice A8 l0_8.length c8) := (blk_cell BS4.out 8).trans rfl; have ks4_9 : World.cell? w4 ⟨w.heap.size, 9, none⟩ = some (.slice A9 l0_9.length c9) := (blk_cell BS4.out 9).trans rfl; have kc4_0 : World.cell? w4 ⟨w.heap.size + 1, 0, none⟩ = some (.int .i64 a0_0) := (blk_cell BC4.out 0).trans rfl; have kc4_1 : World.cell? w4 ⟨w.heap.size + 1, 1, none⟩ = some (.int .i64 a0_1) := (blk_cell BC4.out 1).trans rfl; have kc4_2 : World.cell? w4 ⟨w.heap.size + 1, 2, none⟩ = some (.int .i64 a0_2) := (blk_cell BC4.out 2).trans rfl; have kc4_3 : World.cell? w4 ⟨w.heap.size + 1, 3, none⟩ = some (.int .i64 a0_3) := (blk_cell BC4.out 3).trans rfl; have kc4_4 : World.cell? w4 ⟨w.heap.size + 1, 4, none⟩ = some (.int .i64 a0_4) := (blk_cell BC4.out 4).trans rfl; have kc4_5 : World.cell? w4 ⟨w.heap.size + 1, 5, none⟩ = some (.int .i64 a0_5) := (blk_cell BC4.out 5).trans rfl))
      go_ret
      exact ⟨by simp, HB4.out⟩
    | true =>
      by_cases h_len8 : (l0_8.length : Int) = a0_1
      rotate_left
      · have f_len8 : ((l0_8.length : Int) == a0_1) = false := beq_false_of_ne h_len8
        have g_len8 : decide ((l0_8.length : Int) = a0_1) = false := decide_eq_false h_len8
        clear h_len8
        have E : Aside0 ((true && decide ((l0_6.length : Int) = a0_0) && decide (wrap64 (2 * a0_0) ≤ a0_2) && true && decide ((l0_8.length : Int) = a0_1) && decide ((l0_7.length : Int) ≤ 255) && b36 && b37) = false) := ⟨by rw [g_len6, g_rec, g_len8]; simp⟩
        rw [E.out]
        go_enter Try.func17, Try.ntmps17
        go_upto_region 2 with (fail)
        have hb := below_alloc (below_alloc (Below.refl w.heap.size w) (.cells #[.int .i64 a0_0, .int .i64 a0_1, .int .i64 a0_2, .int .i64 a0_3, .int .i64 a0_4, .int .i64 a0_5, .slice A6 l0_6.length c6, .slice A7 l0_7.length c7, .slice A8 l0_8.length c8, .slice A9 l0_9.length c9] 30)) (.cells #[.int .i64 a0_0, .int .i64 a0_1, .int .i64 a0_2, .int .i64 a0_3, .int .i64 a0_4, .int .i64 a0_5] 25)
        have bs : ((w.alloc (.cells #[.int .i64 a0_0, .int .i64 a0_1, .int .i64 a0_2, .int .i64 a0_3, .int .i64 a0_4, .int .i64 a0_5, .slice A6 l0_6.length c6, .slice A7 l0_7.length c7, .slice A8 l0_8.length c8, .slice A9 l0_9.length c9] 30)).alloc (.cells #[.int .i64 a0_0, .int .i64 a0_1, .int .i64 a0_2, .int .i64 a0_3, .int .i64 a0_4, .int .i64 a0_5] 25)).heap[w.heap.size]? = some (.cells #[.int .i64 a0_0, .int .i64 a0_1, .int .i64 a0_2, .int .i64 a0_3, .int .i64 a0_4, .int .i64 a0_5, .slice A6 l0_6.length c6, .slice A7 l0_7.length c7, .slice A8 l0_8.length c8, .slice A9 l0_9.length c9] 30 (0, 0)) := new_blk1 w _ _
        have bc : ((w.alloc (.cells #[.int .i64 a0_0, .int .i64 a0_1, .int .i64 a0_2, .int .i64 a0_3, .int .i64 a0_4, .int .i64 a0_5, .slice A6 l0_6.length c6, .slice A7 l0_7.length c7, .slice A8 l0_8.length c8, .slice A9 l0_9.length c9] 30)).alloc (.cells #[.int .i64 a0_0, .int .i64 a0_1, .int .i64 a0_2, .int .i64 a0_3, .int .i64 a0_4, .int .i64 a0_5] 25)).heap[w.heap.size + 1]? = some (.cells #[.int .i64 a0_0, .int .i64 a0_1, .int .i64 a0_2, .int .i64 a0_3, .int .i64 a0_4, .int .i64 a0_5] 25 (0, 0)) := new_blk2 w _ _
        generalize ((w.alloc (.cells #[.int .i64 a0_0, .int .i64 a0_1, .int .i64 a0_2, .int .i64 a0_3, .int .i64 a0_4, .int .i64 a0_5, .slice A6 l0_6.length c6, .slice A7 l0_7.length c7, .slice A8 l0_8.length c8, .slice A9 l0_9.length c9] 30)).alloc (.cells #[.int .i64 a0_0, .int .i64 a0_1, .int .i64 a0_2, .int .i64 a0_3, .int .i64 a0_4, .int .i64 a0_5] 25)) = w2 at hb bs bc ⊢
        have HB2 := Aside0.mk hb
        have BS2 := Aside0.mk bs
        have BC2 := Aside0.mk bc
        clear hb bs bc
        have ks2_6 : World.cell? w2 ⟨w.heap.size, 6, none⟩ = some (.slice A6 l0_6.length c6) := (blk_cell BS2.out 6).trans rfl
        have ks2_7 : World.cell? w2 ⟨w.heap.size, 7, none⟩ = some (.slice A7 l0_7.length c7) := (blk_cell BS2.out 7).trans rfl
        have ks2_8 : World.cell? w2 ⟨w.heap.size, 8, none⟩ = some (.slice A8 l0_8.length c8) := (blk_cell BS2.out 8).trans rfl
        have ks2_9 : World.cell? w2 ⟨w.heap.size, 9, none⟩ = some (.slice A9 l0_9.length c9) := (blk_cell BS2.out 9).trans rfl
        have kc2_0 : World.cell? w2 ⟨w.heap.size + 1, 0, none⟩ = some (.int .i64 a0_0) := (blk_cell BC2.out 0).trans rfl
        have kc2_1 : World.cell? w2 ⟨w.heap.size + 1, 1, none⟩ = some (.int .i64 a0_1) := (blk_cell BC2.out 1).trans rfl
        have kc2_2 : World.cell? w2 ⟨w.heap.size + 1, 2, none⟩ = some (.int .i64 a0_2) := (blk_cell BC2.out 2).trans rfl
        have kc2_3 : World.cell? w2 ⟨w.heap.size + 1, 3, none⟩ = some (.int .i64 a0_3) := (blk_cell BC2.out 3).trans rfl
        have kc2_4 : World.cell? w2 ⟨w.heap.size + 1, 4, none⟩ = some (.int .i64 a0_4) := (blk_cell BC2.out 4).trans rfl
        have kc2_5 : World.cell? w2 ⟨w.heap.size + 1, 5, none⟩ = some (.int .i64 a0_5) := (blk_cell BC2.out 5).trans rfl
        go_wp2_with (first | (go_at_call 34; refine (G34.out w2).mono ?_; rintro e w3 ⟨rfl, hb⟩; have HB3 := Aside0.mk (below_step HB2.out hb); have BS3 := Aside0.mk (blk_below BS2.out hb); have BC3 := Aside0.mk (blk_below BC2.out hb); clear hb; clear ks2_6 ks2_7 ks2_8 ks2_9 kc2_0 kc2_1 kc2_2 kc2_3 kc2_4 kc2_5; have ks3_6 : World.cell? w3 ⟨w.heap.size, 6, none⟩ = some (.slice A6 l0_6.length c6) := (blk_cell BS3.out 6).trans rfl; have ks3_7 : World.cell? w3 ⟨w.heap.size, 7, none⟩ = some (.slice A7 l0_7.length c7) := (blk_cell BS3.out 7).trans rfl; have ks3_8 : World.cell? w3 ⟨w.heap.size, 8, none⟩ = some (.slice A8 l0_8.length c8) := (blk_cell BS3.out 8).trans rfl; have ks3_9 : World.cell? w3 ⟨w.heap.size, 9, none⟩ = some (.slice A9 l0_9.length c9) := (blk_cell BS3.out 9).trans rfl; have kc3_0 : World.cell? w3 ⟨w.heap.size + 1, 0, none⟩ = some (.int .i64 a0_0) := (blk_cell BC3.out 0).trans rfl; have kc3_1 : World.cell? w3 ⟨w.heap.size + 1, 1, none⟩ = some (.int .i64 a0_1) := (blk_cell BC3.out 1).trans rfl; have kc3_2 : World.cell? w3 ⟨w.heap.size + 1, 2, none⟩ = some (.int .i64 a0_2) := (blk_cell BC3.out 2).trans rfl; have kc3_3 : World.cell? w3 ⟨w.heap.size + 1, 3, none⟩ = some (.int .i64 a0_3) := (blk_cell BC3.out 3).trans rfl; have kc3_4 : World.cell? w3 ⟨w.heap.size + 1, 4, none⟩ = some (.int .i64 a0_4) := (blk_cell BC3.out 4).trans rfl; have kc3_5 : World.cell? w3 ⟨w.heap.size + 1, 5, none⟩ = some (.int .i64 a0_5) := (blk_cell BC3.out 5).trans rfl) | (go_at_call 35; refine (G35.out w3 HB3.out).mono ?_; rintro e w4 ⟨rfl, hb⟩; have HB4 := Aside0.mk (below_step HB3.out hb); have BS4 := Aside0.mk (blk_below BS3.out hb); have BC4 := Aside0.mk (blk_below BC3.out hb); clear hb; clear ks3_6 ks3_7 ks3_8 ks3_9 kc3_0 kc3_1 kc3_2 kc3_3 kc3_4 kc3_5; have ks4_6 : World.cell? w4 ⟨w.heap.size, 6, none⟩ = some (.slice A6 l0_6.length c6) := (blk_cell BS4.out 6).trans rfl; have ks4_7 : World.cell? w4 ⟨w.heap.size, 7, none⟩ = some (.slice A7 l0_7.length c7) := (blk_cell BS4.out 7).trans rfl; have ks4_8 : World.cell? w4 ⟨w.heap.size, 8, none⟩ = some (.slice A8 l0_8.length c8) := (blk_cell BS4.out 8).trans rfl; have ks4_9 : World.cell? w4 ⟨w.heap.size, 9, none⟩ = some (.slice A9 l0_9.length c9) := (blk_cell BS4.out 9).trans rfl; have kc4_0 : World.cell? w4 ⟨w.heap.size + 1, 0, none⟩ = some (.int .i64 a0_0) := (blk_cell BC4.out 0).trans rfl; have kc4_1 : World.cell? w4 ⟨w.heap.size + 1, 1, none⟩ = some (.int .i64 a0_1) := (blk_cell BC4.out 1).trans rfl; have kc4_2 : World.cell? w4 ⟨w.heap.size + 1, 2, none⟩ = some (.int .i64 a0_2) := (blk_cell BC4.out 2).trans rfl; have kc4_3 : World.cell? w4 ⟨w.heap.size + 1, 3, none⟩ = some (.int .i64 a0_3) := (blk_cell BC4.out 3).trans rfl; have kc4_4 : World.cell? w4 ⟨w.heap.size + 1, 4, none⟩ = some (.int .i64 a0_4) := (blk_cell BC4.out 4).trans rfl; have kc4_5 : World.cell? w4 ⟨w.heap.size + 1, 5, none⟩ = some (.int .i64 a0_5) := (blk_cell BC4.out 5).trans rfl))
        go_ret
        exact ⟨by simp, HB4.out⟩
      have f_len8 : ((l0_8.length : Int) == a0_1) = true := beq_iff_eq.2 h_len8
      have g_len8 : decide ((l0_8.length : Int) = a0_1) = true := decide_eq_true h_len8
      clear h_len8
      by_cases h_len7 : (l0_7.length : Int) ≤ 255
      rotate_left
      · have g_len7 : decide ((l0_7.length : Int) ≤ 255) = false := decide_eq_false h_len7
        clear h_len7
        have E : Aside0 ((true && decide ((l0_6.length : Int) = a0_0) && decide (wrap64 (2 * a0_0) ≤ a0_2) && true && decide ((l0_8.length : Int) = a0_1) && decide ((l0_7.length : Int) ≤ 255) && b36 && b37) = false) := ⟨by rw [g_len6, g_rec, g_len8, g_len7]; simp⟩
        rw [E.out]
        go_enter Try.func17, Try.ntmps17
        go_upto_region 2 with (fail)
        have hb := below_alloc (below_alloc (Below.refl w.heap.size w) (.cells #[.int .i64 a0_0, .int .i64 a0_1, .int .i64 a0_2, .int .i64 a0_3, .int .i64 a0_4, .int .i64 a0_5, .slice A6 l0_6.length c6, .slice A7 l0_7.length c7, .slice A8 l0_8.length c8, .slice A9 l0_9.length c9] 30)) (.cells #[.int .i64 a0_0, .int .i64 a0_1, .int .i64 a0_2, .int .i64 a0_3, .int .i64 a0_4, .int .i64 a0_5] 25)
        have bs : ((w.alloc (.cells #[.int .i64 a0_0, .int .i64 a0_1, .int .i64 a0_2, .int .i64 a0_3, .int .i64 a0_4, .int .i64 a0_5, .slice A6 l0_6.length c6, .slice A7 l0_7.length c7, .slice A8 l0_8.length c8, .slice A9 l0_9.length c9] 30)).alloc (.cells #[.int .i64 a0_0, .int .i64 a0_1, .int .i64 a0_2, .int .i64 a0_3, .int .i64 a0_4, .int .i64 a0_5] 25)).heap[w.heap.size]? = some (.cells #[.int .i64 a0_0, .int .i64 a0_1, .int .i64 a0_2, .int .i64 a0_3, .int .i64 a0_4, .int .i64 a0_5, .slice A6 l0_6.length c6, .slice A7 l0_7.length c7, .slice A8 l0_8.length c8, .slice A9 l0_9.length c9] 30 (0, 0)) := new_blk1 w _ _
        have bc : ((w.alloc (.cells #[.int .i64 a0_0, .int .i64 a0_1, .int .i64 a0_2, .int .i64 a0_3, .int .i64 a0_4, .int .i64 a0_5, .slice A6 l0_6.length c6, .slice A7 l0_7.length c7, .slice A8 l0_8.length c8, .slice A9 l0_9.length c9] 30)).alloc (.cells #[.int .i64 a0_0, .int .i64 a0_1, .int .i64 a0_2, .int .i64 a0_3, .int .i64 a0_4, .int .i64 a0_5] 25)).heap[w.heap.size + 1]? = some (.cells #[.int .i64 a0_0, .int .i64 a0_1, .int .i64 a0_2, .int .i64 a0_3, .int .i64 a0_4, .int .i64 a0_5] 25 (0, 0)) := new_blk2 w _ _
        generalize ((w.alloc (.cells #[.int .i64 a0_0, .int .i64 a0_1, .int .i64 a0_2, .int .i64 a0_3, .int .i64 a0_4, .int .i64 a0_5, .slice A6 l0_6.length c6, .slice A7 l0_7.length c7, .slice A8 l0_8.length c8, .slice A9 l0_9.length c9] 30)).alloc (.cells #[.int .i64 a0_0, .int .i64 a0_1, .int .i64 a0_2, .int .i64 a0_3, .int .i64 a0_4, .int .i64 a0_5] 25)) = w2 at hb bs bc ⊢
        have HB2 := Aside0.mk hb
        have BS2 := Aside0.mk bs
        have BC2 := Aside0.mk bc
        clear hb bs bc
        have ks2_6 : World.cell? w2 ⟨w.heap.size, 6, none⟩ = some (.slice A6 l0_6.length c6) := (blk_cell BS2.out 6).trans rfl
        have ks2_7 : World.cell? w2 ⟨w.heap.size, 7, none⟩ = some (.slice A7 l0_7.length c7) := (blk_cell BS2.out 7).trans rfl
        have ks2_8 : World.cell? w2 ⟨w.heap.size, 8, none⟩ = some (.slice A8 l0_8.length c8) := (blk_cell BS2.out 8).trans rfl
        have ks2_9 : World.cell? w2 ⟨w.heap.size, 9, none⟩ = some (.slice A9 l0_9.length c9) := (blk_cell BS2.out 9).trans rfl
        have kc2_0 : World.cell? w2 ⟨w.heap.size + 1, 0, none⟩ = some (.int .i64 a0_0) := (blk_cell BC2.out 0).trans rfl
        have kc2_1 : World.cell? w2 ⟨w.heap.size + 1, 1, none⟩ = some (.int .i64 a0_1) := (blk_cell BC2.out 1).trans rfl
        have kc2_2 : World.cell? w2 ⟨w.heap.size + 1, 2, none⟩ = some (.int .i64 a0_2) := (blk_cell BC2.out 2).trans rfl
        have kc2_3 : World.cell? w2 ⟨w.heap.size + 1, 3, none⟩ = some (.int .i64 a0_3) := (blk_cell BC2.out 3).trans rfl
        have kc2_4 : World.cell? w2 ⟨w.heap.size + 1, 4, none⟩ = some (.int .i64 a0_4) := (blk_cell BC2.out 4).trans rfl
        have kc2_5 : World.cell? w2 ⟨w.heap.size + 1, 5, none⟩ = some (.int .i64 a0_5) := (blk_cell BC2.out 5).trans rfl
        go_wp2_with (first | (go_at_call 34; refine (G34.out w2).mono ?_; rintro e w3 ⟨rfl, hb⟩; have HB3 := Aside0.mk (below_step HB2.out hb); have BS3 := Aside0.mk (blk_below BS2.out hb); have BC3 := Aside0.mk (blk_below BC2.out hb); clear hb; clear ks2_6 ks2_7 ks2_8 ks2_9 kc2_0 kc2_1 kc2_2 kc2_3 kc2_4 kc2_5; have ks3_6 : World.cell? w3 ⟨w.heap.size, 6, none⟩ = some (.slice A6 l0_6.length c6) := (blk_cell BS3.out 6).trans rfl; have ks3_7 : World.cell? w3 ⟨w.heap.size, 7, none⟩ = some (.slice A7 l0_7.length c7) := (blk_cell BS3.out 7).trans rfl; have ks3_8 : World.cell? w3 ⟨w.heap.size, 8, none⟩ = some (.slice A8 l0_8.length c8) := (blk_cell BS3.out 8).trans rfl; have ks3_9 : World.cell? w3 ⟨w.heap.size, 9, none⟩ = some (.slice A9 l0_9.length c9) := (blk_cell BS3.out 9).trans rfl; have kc3_0 : World.cell? w3 ⟨w.heap.size + 1, 0, none⟩ = some (.int .i64 a0_0) := (blk_cell BC3.out 0).trans rfl; have kc3_1 : World.cell? w3 ⟨w.heap.size + 1, 1, none⟩ = some (.int .i64 a0_1) := (blk_cell BC3.out 1).trans rfl; have kc3_2 : World.cell? w3 ⟨w.heap.size + 1, 2, none⟩ = some (.int .i64 a0_2) := (blk_cell BC3.out 2).trans rfl; have kc3_3 : World.cell? w3 ⟨w.heap.size + 1, 3, none⟩ = some (.int .i64 a0_3) := (blk_cell BC3.out 3).trans rfl; have kc3_4 : World.cell? w3 ⟨w.heap.size + 1, 4, none⟩ = some (.int .i64 a0_4) := (blk_cell BC3.out 4).trans rfl; have kc3_5 : World.cell? w3 ⟨w.heap.size + 1, 5, none⟩ = some (.int .i64 a0_5) := (blk_cell BC3.out 5).trans rfl) | (go_at_call 35; refine (G35.out w3 HB3.out).mono ?_; rintro e w4 ⟨rfl, hb⟩; have HB4 := Aside0.mk (below_step HB3.out hb); have BS4 := Aside0.mk (blk_below BS3.out hb); have BC4 := Aside0.mk (blk_below BC3.out hb); clear hb; clear ks3_6 ks3_7 ks3_8 ks3_9 kc3_0 kc3_1 kc3_2 kc3_3 kc3_4 kc3_5; have ks4_6 : World.cell? w4 ⟨w.heap.size, 6, none⟩ = some (.slice A6 l0_6.length c6) := (blk_cell BS4.out 6).trans rfl; have ks4_7 : World.cell? w4 ⟨w.heap.size, 7, none⟩ = some (.slice A7 l0_7.length c7) := (blk_cell BS4.out 7).trans rfl; have ks4_8 : World.cell? w4 ⟨w.heap.size, 8, none⟩ = some (.slice A8 l0_8.length c8) := (blk_cell BS4.out 8).trans rfl; have ks4_9 : World.cell? w4 ⟨w.heap.size, 9, none⟩ = some (.slice A9 l0_9.length c9) := (blk_cell BS4.out 9).trans rfl; have kc4_0 : World.cell? w4 ⟨w.heap.size + 1, 0, none⟩ = some (.int .i64 a0_0) := (blk_cell BC4.out 0).trans rfl; have kc4_1 : World.cell? w4 ⟨w.heap.size + 1, 1, none⟩ = some (.int .i64 a0_1) := (blk_cell BC4.out 1).trans rfl; have kc4_2 : World.cell? w4 ⟨w.heap.size + 1, 2, none⟩ = some (.int .i64 a0_2) := (blk_cell BC4.out 2).trans rfl; have kc4_3 : World.cell? w4 ⟨w.heap.size + 1, 3, none⟩ = some (.int .i64 a0_3) := (blk_cell BC4.out 3).trans rfl; have kc4_4 : World.cell? w4 ⟨w.heap.size + 1, 4, none⟩ = some (.int .i64 a0_4) := (blk_cell BC4.out 4).trans rfl; have kc4_5 : World.cell? w4 ⟨w.heap.size + 1, 5, none⟩ = some (.int .i64 a0_5) := (blk_cell BC4.out 5).trans rfl))
        go_ret
        exact ⟨by simp, HB4.out⟩
      have g_len7 : decide ((l0_7.length : Int) ≤ 255) = true := decide_eq_true h_len7
      clear h_len7
      cases b36 with
      | false =>
        have E : Aside0 ((true && decide ((l0_6.length : Int) = a0_0) && decide (wrap64 (2 * a0_0) ≤ a0_2) && true && decide ((l0_8.length : Int) = a0_1) && decide ((l0_7.length : Int) ≤ 255) && false && b37) = false) := ⟨by rw [g_len6, g_rec, g_len8, g_len7]; simp⟩
        rw [E.out]
        go_enter Try.func17, Try.ntmps17
        go_upto_region 2 with (fail)
        have hb := below_alloc (below_alloc (Below.refl w.heap.size w) (.cells #[.int .i64 a0_0, .int .i64 a0_1, .int .i64 a0_2, .int .i64 a0_3, .int .i64 a0_4, .int .i64 a0_5, .slice A6 l0_6.length c6, .slice A7 l0_7.length c7, .slice A8 l0_8.length c8, .slice A9 l0_9.length c9] 30)) (.cells #[.int .i64 a0_0, .int .i64 a0_1, .int .i64 a0_2, .int .i64 a0_3, .int .i64 a0_4, .int .i64 a0_5] 25)
        have bs : ((w.alloc (.cells #[.int .i64 a0_0, .int .i64 a0_1, .int .i64 a0_2, .int .i64 a0_3, .int .i64 a0_4, .int .i64 a0_5, .slice A6 l0_6.length c6, .slice A7 l0_7.length c7, .slice A8 l0_8.length c8, .slice A9 l0_9.length c9] 30)).alloc (.cells #[.int .i64 a0_0, .int .i64 a0_1, .int .i64 a0_2, .int .i64 a0_3, .int .i64 a0_4, .int .i64 a0_5] 25)).heap[w.heap.size]? = some (.cells #[.int .i64 a0_0, .int .i64 a0_1, .int .i64 a0_2, .int .i64 a0_3, .int .i64 a0_4, .int .i64 a0_5, .slice A6 l0_6.length c6, .slice A7 l0_7.length c7, .slice A8 l0_8.length c8, .slice A9 l0_9.length c9] 30 (0, 0)) := new_blk1 w _ _
        have bc : ((w.alloc (.cells #[.int .i64 a0_0, .int .i64 a0_1, .int .i64 a0_2, .int .i64 a0_3, .int .i64 a0_4, .int .i64 a0_5, .slice A6 l0_6.length c6, .slice A7 l0_7.length c7, .slice A8 l0_8.length c8, .slice A9 l0_9.length c9] 30)).alloc (.cells #[.int .i64 a0_0, .int .i64 a0_1, .int .i64 a0_2, .int .i64 a0_3, .int .i64 a0_4, .int .i64 a0_5] 25)).heap[w.heap.size + 1]? = some (.cells #[.int .i64 a0_0, .int .i64 a0_1, .int .i64 a0_2, .int .i64 a0_3, .int .i64 a0_4, .int .i64 a0_5] 25 (0, 0)) := new_blk2 w _ _
        generalize ((w.alloc (.cells #[.int .i64 a0_0, .int .i64 a0_1, .int .i64 a0_2, .int .i64 a0_3, .int .i64 a0_4, .int .i64 a0_5, .slice A6 l0_6.length c6, .slice A7 l0_7.length c7, .slice A8 l0_8.length c8, .slice A9 l0_9.length c9] 30)).alloc (.cells #[.int .i64 a0_0, .int .i64 a0_1, .int .i64 a0_2, .int .i64 a0_3, .int .i64 a0_4, .int .i64 a0_5] 25)) = w2 at hb bs bc ⊢
        have HB2 := Aside0.mk hb
        have BS2 := Aside0.mk bs
        have BC2 := Aside0.mk bc
        clear hb bs bc
        have ks2_6 : World.cell? w2 ⟨w.heap.size, 6, none⟩ = some (.slice A6 l0_6.length c6) := (blk_cell BS2.out 6).trans rfl
        have ks2_7 : World.cell? w2 ⟨w.heap.size, 7, none⟩ = some (.slice A7 l0_7.length c7) := (blk_cell BS2.out 7).trans rfl
        have ks2_8 : World.cell? w2 ⟨w.heap.size, 8, none⟩ = some (.slice A8 l0_8.length c8) := (blk_cell BS2.out 8).trans rfl
        have ks2_9 : World.cell? w2 ⟨w.heap.size, 9, none⟩ = some (.slice A9 l0_9.length c9) := (blk_cell BS2.out 9).trans rfl
        have kc2_0 : World.cell? w2 ⟨w.heap.size + 1, 0, none⟩ = some (.int .i64 a0_0) := (blk_cell BC2.out 0).trans rfl
        have kc2_1 : World.cell? w2 ⟨w.heap.size + 1, 1, none⟩ = some (.int .i64 a0_1) := (blk_cell BC2.out 1).trans rfl
        have kc2_2 : World.cell? w2 ⟨w.heap.size + 1, 2, none⟩ = some (.int .i64 a0_2) := (blk_cell BC2.out 2).trans rfl
        have kc2_3 : World.cell? w2 ⟨w.heap.size + 1, 3, none⟩ = some (.int .i64 a0_3) := (blk_cell BC2.out 3).trans rfl
        have kc2_4 : World.cell? w2 ⟨w.heap.size + 1, 4, none⟩ = some (.int .i64 a0_4) := (blk_cell BC2.out 4).trans rfl
        have kc2_5 : World.cell? w2 ⟨w.heap.size + 1, 5, none⟩ = some (.int .i64 a0_5) := (blk_cell BC2.out 5).trans rfl
        go_wp2_with (first | (go_at_call 34; refine (G34.out w2).mono ?_; rintro e w3 ⟨rfl, hb⟩; have HB3 := Aside0.mk (below_step HB2.out hb); have BS3 := Aside0.mk (blk_below BS2.out hb); have BC3 := Aside0.mk (blk_below BC2.out hb); clear hb; clear ks2_6 ks2_7 ks2_8 ks2_9 kc2_0 kc2_1 kc2_2 kc2_3 kc2_4 kc2_5; have ks3_6 : World.cell? w3 ⟨w.heap.size, 6, none⟩ = some (.slice A6 l0_6.length c6) := (blk_cell BS3.out 6).trans rfl; have ks3_7 : World.cell? w3 ⟨w.heap.size, 7, none⟩ = some (.slice A7 l0_7.length c7) := (blk_cell BS3.out 7).trans rfl; have ks3_8 : World.cell? w3 ⟨w.heap.size, 8, none⟩ = some (.slice A8 l0_8.length c8) := (blk_cell BS3.out 8).trans rfl; have ks3_9 : World.cell? w3 ⟨w.heap.size, 9, none⟩ = some (.slice A9 l0_9.length c9) := (blk_cell BS3.out 9).trans rfl; have kc3_0 : World.cell? w3 ⟨w.heap.size + 1, 0, none⟩ = some (.int .i64 a0_0) := (blk_cell BC3.out 0).trans rfl; have kc3_1 : World.cell? w3 ⟨w.heap.size + 1, 1, none⟩ = some (.int .i64 a0_1) := (blk_cell BC3.out 1).trans rfl; have kc3_2 : World.cell? w3 ⟨w.heap.size + 1, 2, none⟩ = some (.int .i64 a0_2) := (blk_cell BC3.out 2).trans rfl; have kc3_3 : World.cell? w3 ⟨w.heap.size + 1, 3, none⟩ = some (.int .i64 a0_3) := (blk_cell BC3.out 3).trans rfl; have kc3_4 : World.cell? w3 ⟨w.heap.size + 1, 4, none⟩ = some (.int .i64 a0_4) := (blk_cell BC3.out 4).trans rfl; have kc3_5 : World.cell? w3 ⟨w.heap.size + 1, 5, none⟩ = some (.int .i64 a0_5) := (blk_cell BC3.out 5).trans rfl) | (go_at_call 35; refine (G35.out w3 HB3.out).mono ?_; rintro e w4 ⟨rfl, hb⟩; have HB4 := Aside0.mk (below_step HB3.out hb); have BS4 := Aside0.mk (blk_below BS3.out hb); have BC4 := Aside0.mk (blk_below BC3.out hb); clear hb; clear ks3_6 ks3_7 ks3_8 ks3_9 kc3_0 kc3_1 kc3_2 kc3_3 kc3_4 kc3_5; have ks4_6 : World.cell? w4 ⟨w.heap.size, 6, none⟩ = some (.slice A6 l0_6.length c6) := (blk_cell BS4.out 6).trans rfl; have ks4_7 : World.cell? w4 ⟨w.heap.size, 7, none⟩ = some (.slice A7 l0_7.length c7) := (blk_cell BS4.out 7).trans rfl; have ks4_8 : World.cell? w4 ⟨w.heap.size, 8, none⟩ = some (.slice A8 l0_8.length c8) := (blk_cell BS4.out 8).trans rfl; have ks4_9 : World.cell? w4 ⟨w.heap.size, 9, none⟩ = some (.slice A9 l0_9.length c9) := (blk_cell BS4.out 9).trans rfl; have kc4_0 : World.cell? w4 ⟨w.heap.size + 1, 0, none⟩ = some (.int .i64 a0_0) := (blk_cell BC4.out 0).trans rfl; have kc4_1 : World.cell? w4 ⟨w.heap.size + 1, 1, none⟩ = some (.int .i64 a0_1) := (blk_cell BC4.out 1).trans rfl; have kc4_2 : World.cell? w4 ⟨w.heap.size + 1, 2, none⟩ = some (.int .i64 a0_2) := (blk_cell BC4.out 2).trans rfl; have kc4_3 : World.cell? w4 ⟨w.heap.size + 1, 3, none⟩ = some (.int .i64 a0_3) := (blk_cell BC4.out 3).trans rfl; have kc4_4 : World.cell? w4 ⟨w.heap.size + 1, 4, none⟩ = some (.int .i64 a0_4) := (blk_cell BC4.out 4).trans rfl; have kc4_5 : World.cell? w4 ⟨w.heap.size + 1, 5, none⟩ = some (.int .i64 a0_5) := (blk_cell BC4.out 5).trans rfl) | (go_at_call 36; refine (G36.out w4 HB4.out).mono ?_; rintro e w5 ⟨rfl, hb⟩; have HB5 := Aside0.mk (below_step HB4.out hb); have BS5 := Aside0.mk (blk_below BS4.out hb); have BC5 := Aside0.mk (blk_below BC4.out hb); clear hb; clear ks4_6 ks4_7 ks4_8 ks4_9 kc4_0 kc4_1 kc4_2 kc4_3 kc4_4 kc4_5; have ks5_6 : World.cell? w5 ⟨w.heap.size, 6, none⟩ = some (.slice A6 l0_6.length c6) := (blk_cell BS5.out 6).trans rfl; have ks5_7 : World.cell? w5 ⟨w.heap.size, 7, none⟩ = some (.slice A7 l0_7.length c7) := (blk_cell BS5.out 7).trans rfl; have ks5_8 : World.cell? w5 ⟨w.heap.size, 8, none⟩ = some (.slice A8 l0_8.length c8) := (blk_cell BS5.out 8).trans rfl; have ks5_9 : World.cell? w5 ⟨w.heap.size, 9, none⟩ = some (.slice A9 l0_9.length c9) := (blk_cell BS5.out 9).trans rfl; have kc5_0 : World.cell? w5 ⟨w.heap.size + 1, 0, none⟩ = some (.int .i64 a0_0) := (blk_cell BC5.out 0).trans rfl; have kc5_1 : World.cell? w5 ⟨w.heap.size + 1, 1, none⟩ = some (.int .i64 a0_1) := (blk_cell BC5.out 1).trans rfl; have kc5_2 : World.cell? w5 ⟨w.heap.size + 1, 2, none⟩ = some (.int .i64 a0_2) := (blk_cell BC5.out 2).trans rfl; have kc5_3 : World.cell? w5 ⟨w.heap.size + 1, 3, none⟩ = some (.int .i64 a0_3) := (blk_cell BC5.out 3).trans rfl; have kc5_4 : World.cell? w5 ⟨w.heap.size + 1, 4, none⟩ = some (.int .i64 a0_4) := (blk_cell BC5.out 4).trans rfl; have kc5_5 : World.cell? w5 ⟨w.heap.size + 1, 5, none⟩ = some (.int .i64 a0_5) := (blk_cell BC5.out 5).trans rfl))
        go_ret
        exact ⟨by simp, HB5.out⟩
      | true =>
        cases b37 with
        | false =>
          have E : Aside0 ((true && decide ((l0_6.length : Int) = a0_0) && decide (wrap64 (2 * a0_0) ≤ a0_2) && true && decide ((l0_8.length : Int) = a0_1) && decide ((l0_7.length : Int) ≤ 255) && true && false) = false) := ⟨by rw [g_len6, g_rec, g_len8, g_len7]; simp⟩
          rw [E.out]
          go_enter Try.func17, Try.ntmps17
          go_upto_region 2 with (fail)
          have hb := below_alloc (below_alloc (Below.refl w.heap.size w) (.cells #[.int .i64 a0_0, .int .i64 a0_1, .int .i64 a0_2, .int .i64 a0_3, .int .i64 a0_4, .int .i64 a0_5, .slice A6 l0_6.length c6, .slice A7 l0_7.length c7, .slice A8 l0_8.length c8, .slice A9 l0_9.length c9] 30)) (.cells #[.int .i64 a0_0, .int .i64 a0_1, .int .i64 a0_2, .int .i64 a0_3, .int .i64 a0_4, .int .i64 a0_5] 25)
          have bs : ((w.alloc (.cells #[.int .i64 a0_0, .int .i64 a0_1, .int .i64 a0_2, .int .i64 a0_3, .int .i64 a0_4, .int .i64 a0_5, .slice A6 l0_6.length c6, .slice A7 l0_7.length c7, .slice A8 l0_8.length c8, .slice A9 l0_9.length c9] 30)).alloc (.cells #[.int .i64 a0_0, .int .i64 a0_1, .int .i64 a0_2, .int .i64 a0_3, .int .i64 a0_4, .int .i64 a0_5] 25)).heap[w.heap.size]? = some (.cells #[.int .i64 a0_0, .int .i64 a0_1, .int .i64 a0_2, .int .i64 a0_3, .int .i64 a0_4, .int .i64 a0_5, .slice A6 l0_6.length c6, .slice A7 l0_7.length c7, .slice A8 l0_8.length c8, .slice A9 l0_9.length c9] 30 (0, 0)) := new_blk1 w _ _
          have bc : ((w.alloc (.cells #[.int .i64 a0_0, .int .i64 a0_1, .int .i64 a0_2, .int .i64 a0_3, .int .i64 a0_4, .int .i64 a0_5, .slice A6 l0_6.length c6, .slice A7 l0_7.length c7, .slice A8 l0_8.length c8, .slice A9 l0_9.length c9] 30)).alloc (.cells #[.int .i64 a0_0, .int .i64 a0_1, .int .i64 a0_2, .int .i64 a0_3, .int .i64 a0_4, .int .i64 a0_5] 25)).heap[w.heap.size + 1]? = some (.cells #[.int .i64 a0_0, .int .i64 a0_1, .int .i64 a0_2, .int .i64 a0_3, .int .i64 a0_4, .int .i64 a0_5] 25 (0, 0)) := new_blk2 w _ _
          generalize ((w.alloc (.cells #[.int .i64 a0_0, .int .i64 a0_1, .int .i64 a0_2, .int .i64 a0_3, .int .i64 a0_4, .int .i64 a0_5, .slice A6 l0_6.length c6, .slice A7 l0_7.length c7, .slice A8 l0_8.length c8, .slice A9 l0_9.length c9] 30)).alloc (.cells #[.int .i64 a0_0, .int .i64 a0_1, .int .i64 a0_2, .int .i64 a0_3, .int .i64 a0_4, .int .i64 a0_5] 25)) = w2 at hb bs bc ⊢
          have HB2 := Aside0.mk hb
          have BS2 := Aside0.mk bs
          have BC2 := Aside0.mk bc
          clear hb bs bc
          have ks2_6 : World.cell? w2 ⟨w.heap.size, 6, none⟩ = some (.slice A6 l0_6.length c6) := (blk_cell BS2.out 6).trans rfl
          have ks2_7 : World.cell? w2 ⟨w.heap.size, 7, none⟩ = some (.slice A7 l0_7.length c7) := (blk_cell BS2.out 7).trans rfl
          have ks2_8 : World.cell? w2 ⟨w.heap.size, 8, none⟩ = some (.slice A8 l0_8.length c8) := (blk_cell BS2.out 8).trans rfl
          have ks2_9 : World.cell? w2 ⟨w.heap.size, 9, none⟩ = some (.slice A9 l0_9.length c9) := (blk_cell BS2.out 9).trans rfl
          have kc2_0 : World.cell? w2 ⟨w.heap.size + 1, 0, none⟩ = some (.int .i64 a0_0) := (blk_cell BC2.out 0).trans rfl
          have kc2_1 : World.cell? w2 ⟨w.heap.size + 1, 1, none⟩ = some (.int .i64 a0_1) := (blk_cell BC2.out 1).trans rfl
          have kc2_2 : World.cell? w2 ⟨w.heap.size + 1, 2, none⟩ = some (.int .i64 a0_2) := (blk_cell BC2.out 2).trans rfl
          have kc2_3 : World.cell? w2 ⟨w.heap.size + 1, 3, none⟩ = some (.int .i64 a0_3) := (blk_cell BC2.out 3).trans rfl
          have kc2_4 : World.cell? w2 ⟨w.heap.size + 1, 4, none⟩ = some (.int .i64 a0_4) := (blk_cell BC2.out 4).trans rfl
          have kc2_5 : World.cell? w2 ⟨w.heap.size + 1, 5, none⟩ = some (.int .i64 a0_5) := (blk_cell BC2.out 5).trans rfl
          go_wp2_with (first | (go_at_call 34; refine (G34.out w2).mono ?_; rintro e w3 ⟨rfl, hb⟩; have HB3 := Aside0.mk (below_step HB2.out hb); have BS3 := Aside0.mk (blk_below BS2.out hb); have BC3 := Aside0.mk (blk_below BC2.out hb); clear hb; clear ks2_6 ks2_7 ks2_8 ks2_9 kc2_0 kc2_1 kc2_2 kc2_3 kc2_4 kc2_5; have ks3_6 : World.cell? w3 ⟨w.heap.size, 6, none⟩ = some (.slice A6 l0_6.length c6) := (blk_cell BS3.out 6).trans rfl; have ks3_7 : World.cell? w3 ⟨w.heap.size, 7, none⟩ = some (.slice A7 l0_7.length c7) := (blk_cell BS3.out 7).trans rfl; have ks3_8 : World.cell? w3 ⟨w.heap.size, 8, none⟩ = some (.slice A8 l0_8.length c8) := (blk_cell BS3.out 8).trans rfl; have ks3_9 : World.cell? w3 ⟨w.heap.size, 9, none⟩ = some (.slice A9 l0_9.length c9) := (blk_cell BS3.out 9).trans rfl; have kc3_0 : World.cell? w3 ⟨w.heap.size + 1, 0, none⟩ = some (.int .i64 a0_0) := (blk_cell BC3.out 0).trans rfl; have kc3_1 : World.cell? w3 ⟨w.heap.size + 1, 1, none⟩ = some (.int .i64 a0_1) := (blk_cell BC3.out 1).trans rfl; have kc3_2 : World.cell? w3 ⟨w.heap.size + 1, 2, none⟩ = some (.int .i64 a0_2) := (blk_cell BC3.out 2).trans rfl; have kc3_3 : World.cell? w3 ⟨w.heap.size + 1, 3, none⟩ = some (.int .i64 a0_3) := (blk_cell BC3.out 3).trans rfl; have kc3_4 : World.cell? w3 ⟨w.heap.size + 1, 4, none⟩ = some (.int .i64 a0_4) := (blk_cell BC3.out 4).trans rfl; have kc3_5 : World.cell? w3 ⟨w.heap.size + 1, 5, none⟩ = some (.int .i64 a0_5) := (blk_cell BC3.out 5).trans rfl) | (go_at_call 35; refine (G35.out w3 HB3.out).mono ?_; rintro e w4 ⟨rfl, hb⟩; have HB4 := Aside0.mk (below_step HB3.out hb); have BS4 := Aside0.mk (blk_below BS3.out hb); have BC4 := Aside0.mk (blk_below BC3.out hb); clear hb; clear ks3_6 ks3_7 ks3_8 ks3_9 kc3_0 kc3_1 kc3_2 kc3_3 kc3_4 kc3_5; have ks4_6 : World.cell? w4 ⟨w.heap.size, 6, none⟩ = some (.slice A6 l0_6.length c6) := (blk_cell BS4.out 6).trans rfl; have ks4_7 : World.cell? w4 ⟨w.heap.size, 7, none⟩ = some (.slice A7 l0_7.length c7) := (blk_cell BS4.out 7).trans rfl; have ks4_8 : World.cell? w4 ⟨w.heap.size, 8, none⟩ = some (.slice A8 l0_8.length c8) := (blk_cell BS4.out 8).trans rfl; have ks4_9 : World.cell? w4 ⟨w.heap.size, 9, none⟩ = some (.slice A9 l0_9.length c9) := (blk_cell BS4.out 9).trans rfl; have kc4_0 : World.cell? w4 ⟨w.heap.size + 1, 0, none⟩ = some (.int .i64 a0_0) := (blk_cell BC4.out 0).trans rfl; have kc4_1 : World.cell? w4 ⟨w.heap.size + 1, 1, none⟩ = some (.int .i64 a0_1) := (blk_cell BC4.out 1).trans rfl; have kc4_2 : World.cell? w4 ⟨w.heap.size + 1, 2, none⟩ = some (.int .i64 a0_2) := (blk_cell BC4.out 2).trans rfl; have kc4_3 : World.cell? w4 ⟨w.heap.size + 1, 3, none⟩ = some (.int .i64 a0_3) := (blk_cell BC4.out 3).trans rfl; have kc4_4 : World.cell? w4 ⟨w.heap.size + 1, 4, none⟩ = some (.int .i64 a0_4) := (blk_cell BC4.out 4).trans rfl; have kc4_5 : World.cell? w4 ⟨w.heap.size + 1, 5, none⟩ = some (.int .i64 a0_5) := (blk_cell BC4.out 5).trans rfl) | (go_at_call 36; refine (G36.out w4 HB4.out).mono ?_; rintro e w5 ⟨rfl, hb⟩; have HB5 := Aside0.mk (below_step HB4.out hb); have BS5 := Aside0.mk (blk_below BS4.out hb); have BC5 := Aside0.mk (blk_below BC4.out hb); clear hb; clear ks4_6 ks4_7 ks4_8 ks4_9 kc4_0 kc4_1 kc4_2 kc4_3 kc4_4 kc4_5; have ks5_6 : World.cell? w5 ⟨w.heap.size, 6, none⟩ = some (.slice A6 l0_6.length c6) := (blk_cell BS5.out 6).trans rfl; have ks5_7 : World.cell? w5 ⟨w.heap.size, 7, none⟩ = some (.slice A7 l0_7.length c7) := (blk_cell BS5.out 7).trans rfl; have ks5_8 : World.cell? w5 ⟨w.heap.size, 8, none⟩ = some (.slice A8 l0_8.length c8) := (blk_cell BS5.out 8).trans rfl; have ks5_9 : World.cell? w5 ⟨w.heap.size, 9, none⟩ = some (.slice A9 l0_9.length c9) := (blk_cell BS5.out 9).trans rfl; have kc5_0 : World.cell? w5 ⟨w.heap.size + 1, 0, none⟩ = some (.int .i64 a0_0) := (blk_cell BC5.out 0).trans rfl; have kc5_1 : World.cell? w5 ⟨w.heap.size + 1, 1, none⟩ = some (.int .i64 a0_1) := (blk_cell BC5.out 1).trans rfl; have kc5_2 : World.cell? w5 ⟨w.heap.size + 1, 2, none⟩ = some (.int .i64 a0_2) := (blk_cell BC5.out 2).trans rfl; have kc5_3 : World.cell? w5 ⟨w.heap.size + 1, 3, none⟩ = some (.int .i64 a0_3) := (blk_cell BC5.out 3).trans rfl; have kc5_4 : World.cell? w5 ⟨w.heap.size + 1, 4, none⟩ = some (.int .i64 a0_4) := (blk_cell BC5.out 4).trans rfl; have kc5_5 : World.cell? w5 ⟨w.heap.size + 1, 5, none⟩ = some (.int .i64 a0_5) := (blk_cell BC5.out 5).trans rfl) | (go_at_call 37; refine (G37.out w5 HB5.out kc5_0).mono ?_; rintro e w6 ⟨rfl, hb⟩; have HB6 := Aside0.mk (below_step HB5.out hb); have BS6 := Aside0.mk (blk_below BS5.out hb); have BC6 := Aside0.mk (blk_below BC5.out hb); clear hb; clear ks5_6 ks5_7 ks5_8 ks5_9 kc5_0 kc5_1 kc5_2 kc5_3 kc5_4 kc5_5; have ks6_6 : World.cell? w6 ⟨w.heap.size, 6, none⟩ = some (.slice A6 l0_6.length c6) := (blk_cell BS6.out 6).trans rfl; have ks6_7 : World.cell? w6 ⟨w.heap.size, 7, none⟩ = some (.slice A7 l0_7.length c7) := (blk_cell BS6.out 7).trans rfl; have ks6_8 : World.cell? w6 ⟨w.heap.size, 8, none⟩ = some (.slice A8 l0_8.length c8) := (blk_cell BS6.out 8).trans rfl; have ks6_9 : World.cell? w6 ⟨w.heap.size, 9, none⟩ = some (.slice A9 l0_9.length c9) := (blk_cell BS6.out 9).trans rfl; have kc6_0 : World.cell? w6 ⟨w.heap.size + 1, 0, none⟩ = some (.int .i64 a0_0) := (blk_cell BC6.out 0).trans rfl; have kc6_1 : World.cell? w6 ⟨w.heap.size + 1, 1, none⟩ = some (.int .i64 a0_1) := (blk_cell BC6.out 1).trans rfl; have kc6_2 : World.cell? w6 ⟨w.heap.size + 1, 2, none⟩ = some (.int .i64 a0_2) := (blk_cell BC6.out 2).trans rfl; have kc6_3 : World.cell? w6 ⟨w.heap.size + 1, 3, none⟩ = some (.int .i64 a0_3) := (blk_cell BC6.out 3).trans rfl; have kc6_4 : World.cell? w6 ⟨w.heap.size + 1, 4, none⟩ = some (.int .i64 a0_4) := (blk_cell BC6.out 4).trans rfl; have kc6_5 : World.cell? w6 ⟨w.heap.size + 1, 5, none⟩ = some (.int .i64 a0_5) := (blk_cell BC6.out 5).trans rfl))
          go_ret
          exact ⟨by simp, HB6.out⟩
        | true =>
          have E : Aside0 ((true && decide ((l0_6.length : Int) = a0_0) && decide (wrap64 (2 * a0_0) ≤ a0_2) && true && decide ((l0_8.length : Int) = a0_1) && decide ((l0_7.length : Int) ≤ 255) && true && true) = true) := ⟨by rw [g_len6, g_rec, g_len8, g_len7]; simp⟩
          rw [E.out]
          go_enter Try.func17, Try.ntmps17
          go_upto_region 2 with (fail)
          have hb := below_alloc (below_alloc (Below.refl w.heap.size w) (.cells #[.int .i64 a0_0, .int .i64 a0_1, .int .i64 a0_2, .int .i64 a0_3, .int .i64 a0_4, .int .i64 a0_5, .slice A6 l0_6.length c6, .slice A7 l0_7.length c7, .slice A8 l0_8.length c8, .slice A9 l0_9.length c9] 30)) (.cells #[.int .i64 a0_0, .int .i64 a0_1, .int .i64 a0_2, .int .i64 a0_3, .int .i64 a0_4, .int .i64 a0_5] 25)
          have bs : ((w.alloc (.cells #[.int .i64 a0_0, .int .i64 a0_1, .int .i64 a0_2, .int .i64 a0_3, .int .i64 a0_4, .int .i64 a0_5, .slice A6 l0_6.length c6, .slice A7 l0_7.length c7, .slice A8 l0_8.length c8, .slice A9 l0_9.length c9] 30)).alloc (.cells #[.int .i64 a0_0, .int .i64 a0_1, .int .i64 a0_2, .int .i64 a0_3, .int .i64 a0_4, .int .i64 a0_5] 25)).heap[w.heap.size]? = some (.cells #[.int .i64 a0_0, .int .i64 a0_1, .int .i64 a0_2, .int .i64 a0_3, .int .i64 a0_4, .int .i64 a0_5, .slice A6 l0_6.length c6, .slice A7 l0_7.length c7, .slice A8 l0_8.length c8, .slice A9 l0_9.length c9] 30 (0, 0)) := new_blk1 w _ _
          have bc : ((w.alloc (.cells #[.int .i64 a0_0, .int .i64 a0_1, .int .i64 a0_2, .int .i64 a0_3, .int .i64 a0_4, .int .i64 a0_5, .slice A6 l0_6.length c6, .slice A7 l0_7.length c7, .slice A8 l0_8.length c8, .slice A9 l0_9.length c9] 30)).alloc (.cells #[.int .i64 a0_0, .int .i64 a0_1, .int .i64 a0_2, .int .i64 a0_3, .int .i64 a0_4, .int .i64 a0_5] 25)).heap[w.heap.size + 1]? = some (.cells #[.int .i64 a0_0, .int .i64 a0_1, .int .i64 a0_2, .int .i64 a0_3, .int .i64 a0_4, .int .i64 a0_5] 25 (0, 0)) := new_blk2 w _ _
          generalize ((w.alloc (.cells #[.int .i64 a0_0, .int .i64 a0_1, .int .i64 a0_2, .int .i64 a0_3, .int .i64 a0_4, .int .i64 a0_5, .slice A6 l0_6.length c6, .slice A7 l0_7.length c7, .slice A8 l0_8.length c8, .slice A9 l0_9.length c9] 30)).alloc (.cells #[.int .i64 a0_0, .int .i64 a0_1, .int .i64 a0_2, .int .i64 a0_3, .int .i64 a0_4, .int .i64 a0_5] 25)) = w2 at hb bs bc ⊢
          have HB2 := Aside0.mk hb
          have BS2 := Aside0.mk bs
          have BC2 := Aside0.mk bc
          clear hb bs bc
          have ks2_6 : World.cell? w2 ⟨w.heap.size, 6, none⟩ = some (.slice A6 l0_6.length c6) := (blk_cell BS2.out 6).trans rfl
          have ks2_7 : World.cell? w2 ⟨w.heap.size, 7, none⟩ = some (.slice A7 l0_7.length c7) := (blk_cell BS2.out 7).trans rfl
          have ks2_8 : World.cell? w2 ⟨w.heap.size, 8, none⟩ = some (.slice A8 l0_8.length c8) := (blk_cell BS2.out 8).trans rfl
          have ks2_9 : World.cell? w2 ⟨w.heap.size, 9, none⟩ = some (.slice A9 l0_9.length c9) := (blk_cell BS2.out 9).trans rfl
          have kc2_0 : World.cell? w2 ⟨w.heap.size + 1, 0, none⟩ = some (.int .i64 a0_0) := (blk_cell BC2.out 0).trans rfl
          have kc2_1 : World.cell? w2 ⟨w.heap.size + 1, 1, none⟩ = some (.int .i64 a0_1) := (blk_cell BC2.out 1).trans rfl
          have kc2_2 : World.cell? w2 ⟨w.heap.size + 1, 2, none⟩ = some (.int .i64 a0_2) := (blk_cell BC2.out 2).trans rfl
          have kc2_3 : World.cell? w2 ⟨w.heap.size + 1, 3, none⟩ = some (.int .i64 a0_3) := (blk_cell BC2.out 3).trans rfl
          have kc2_4 : World.cell? w2 ⟨w.heap.size + 1, 4, none⟩ = some (.int .i64 a0_4) := (blk_cell BC2.out 4).trans rfl
          have kc2_5 : World.cell? w2 ⟨w.heap.size + 1, 5, none⟩ = some (.int .i64 a0_5) := (blk_cell BC2.out 5).trans rfl
          go_wp2_with (first | (go_at_call 34; refine (G34.out w2).mono ?_; rintro e w3 ⟨rfl, hb⟩; have HB3 := Aside0.mk (below_step HB2.out hb); have BS3 := Aside0.mk (blk_below BS2.out hb); have BC3 := Aside0.mk (blk_below BC2.out hb); clear hb; clear ks2_6 ks2_7 ks2_8 ks2_9 kc2_0 kc2_1 kc2_2 kc2_3 kc2_4 kc2_5; have ks3_6 : World.cell? w3 ⟨w.heap.size, 6, none⟩ = some (.slice A6 l0_6.length c6) := (blk_cell BS3.out 6).trans rfl; have ks3_7 : World.cell? w3 ⟨w.heap.size, 7, none⟩ = some (.slice A7 l0_7.length c7) := (blk_cell BS3.out 7).trans rfl; have ks3_8 : World.cell? w3 ⟨w.heap.size, 8, none⟩ = some (.slice A8 l0_8.length c8) := (blk_cell BS3.out 8).trans rfl; have ks3_9 : World.cell? w3 ⟨w.heap.size, 9, none⟩ = some (.slice A9 l0_9.length c9) := (blk_cell BS3.out 9).trans rfl; have kc3_0 : World.cell? w3 ⟨w.heap.size + 1, 0, none⟩ = some (.int .i64 a0_0) := (blk_cell BC3.out 0).trans rfl; have kc3_1 : World.cell? w3 ⟨w.heap.size + 1, 1, none⟩ = some (.int .i64 a0_1) := (blk_cell BC3.out 1).trans rfl; have kc3_2 : World.cell? w3 ⟨w.heap.size + 1, 2, none⟩ = some (.int .i64 a0_2) := (blk_cell BC3.out 2).trans rfl; have kc3_3 : World.cell? w3 ⟨w.heap.size + 1, 3, none⟩ = some (.int .i64 a0_3) := (blk_cell BC3.out 3).trans rfl; have kc3_4 : World.cell? w3 ⟨w.heap.size + 1, 4, none⟩ = some (.int .i64 a0_4) := (blk_cell BC3.out 4).trans rfl; have kc3_5 : World.cell? w3 ⟨w.heap.size + 1, 5, none⟩ = some (.int .i64 a0_5) := (blk_cell BC3.out 5).trans rfl) | (go_at_call 35; refine (G35.out w3 HB3.out).mono ?_; rintro e w4 ⟨rfl, hb⟩; have HB4 := Aside0.mk (below_step HB3.out hb); have BS4 := Aside0.mk (blk_below BS3.out hb); have BC4 := Aside0.mk (blk_below BC3.out hb); clear hb; clear ks3_6 ks3_7 ks3_8 ks3_9 kc3_0 kc3_1 kc3_2 kc3_3 kc3_4 kc3_5; have ks4_6 : World.cell? w4 ⟨w.heap.size, 6, none⟩ = some (.slice A6 l0_6.length c6) := (blk_cell BS4.out 6).trans rfl; have ks4_7 : World.cell? w4 ⟨w.heap.size, 7, none⟩ = some (.slice A7 l0_7.length c7) := (blk_cell BS4.out 7).trans rfl; have ks4_8 : World.cell? w4 ⟨w.heap.size, 8, none⟩ = some (.slice A8 l0_8.length c8) := (blk_cell BS4.out 8).trans rfl; have ks4_9 : World.cell? w4 ⟨w.heap.size, 9, none⟩ = some (.slice A9 l0_9.length c9) := (blk_cell BS4.out 9).trans rfl; have kc4_0 : World.cell? w4 ⟨w.heap.size + 1, 0, none⟩ = some (.int .i64 a0_0) := (blk_cell BC4.out 0).trans rfl; have kc4_1 : World.cell? w4 ⟨w.heap.size + 1, 1, none⟩ = some (.int .i64 a0_1) := (blk_cell BC4.out 1).trans rfl; have kc4_2 : World.cell? w4 ⟨w.heap.size + 1, 2, none⟩ = some (.int .i64 a0_2) := (blk_cell BC4.out 2).trans rfl; have kc4_3 : World.cell? w4 ⟨w.heap.size + 1, 3, none⟩ = some (.int .i64 a0_3) := (blk_cell BC4.out 3).trans rfl; have kc4_4 : World.cell? w4 ⟨w.heap.size + 1, 4, none⟩ = some (.int .i64 a0_4) := (blk_cell BC4.out 4).trans rfl; have kc4_5 : World.cell? w4 ⟨w.heap.size + 1, 5, none⟩ = some (.int .i64 a0_5) := (blk_cell BC4.out 5).trans rfl) | (go_at_call 36; refine (G36.out w4 HB4.out).mono ?_; rintro e w5 ⟨rfl, hb⟩; have HB5 := Aside0.mk (below_step HB4.out hb); have BS5 := Aside0.mk (blk_below BS4.out hb); have BC5 := Aside0.mk (blk_below BC4.out hb); clear hb; clear ks4_6 ks4_7 ks4_8 ks4_9 kc4_0 kc4_1 kc4_2 kc4_3 kc4_4 kc4_5; have ks5_6 : World.cell? w5 ⟨w.heap.size, 6, none⟩ = some (.slice A6 l0_6.length c6) := (blk_cell BS5.out 6).trans rfl; have ks5_7 : World.cell? w5 ⟨w.heap.size, 7, none⟩ = some (.slice A7 l0_7.length c7) := (blk_cell BS5.out 7).trans rfl; have ks5_8 : World.cell? w5 ⟨w.heap.size, 8, none⟩ = some (.slice A8 l0_8.length c8) := (blk_cell BS5.out 8).trans rfl; have ks5_9 : World.cell? w5 ⟨w.heap.size, 9, none⟩ = some (.slice A9 l0_9.length c9) := (blk_cell BS5.out 9).trans rfl; have kc5_0 : World.cell? w5 ⟨w.heap.size + 1, 0, none⟩ = some (.int .i64 a0_0) := (blk_cell BC5.out 0).trans rfl; have kc5_1 : World.cell? w5 ⟨w.heap.size + 1, 1, none⟩ = some (.int .i64 a0_1) := (blk_cell BC5.out 1).trans rfl; have kc5_2 : World.cell? w5 ⟨w.heap.size + 1, 2, none⟩ = some (.int .i64 a0_2) := (blk_cell BC5.out 2).trans rfl; have kc5_3 : World.cell? w5 ⟨w.heap.size + 1, 3, none⟩ = some (.int .i64 a0_3) := (blk_cell BC5.out 3).trans rfl; have kc5_4 : World.cell? w5 ⟨w.heap.size + 1, 4, none⟩ = some (.int .i64 a0_4) := (blk_cell BC5.out 4).trans rfl; have kc5_5 : World.cell? w5 ⟨w.heap.size + 1, 5, none⟩ = some (.int .i64 a0_5) := (blk_cell BC5.out 5).trans rfl) | (go_at_call 37; refine (G37.out w5 HB5.out kc5_0).mono ?_; rintro e w6 ⟨rfl, hb⟩; have HB6 := Aside0.mk (below_step HB5.out hb); have BS6 := Aside0.mk (blk_below BS5.out hb); have BC6 := Aside0.mk (blk_below BC5.out hb); clear hb; clear ks5_6 ks5_7 ks5_8 ks5_9 kc5_0 kc5_1 kc5_2 kc5_3 kc5_4 kc5_5; have ks6_6 : World.cell? w6 ⟨w.heap.size, 6, none⟩ = some (.slice A6 l0_6.length c6) := (blk_cell BS6.out 6).trans rfl; have ks6_7 : World.cell? w6 ⟨w.heap.size, 7, none⟩ = some (.slice A7 l0_7.length c7) := (blk_cell BS6.out 7).trans rfl; have ks6_8 : World.cell? w6 ⟨w.heap.size, 8, none⟩ = some (.slice A8 l0_8.length c8) := (blk_cell BS6.out 8).trans rfl; have ks6_9 : World.cell? w6 ⟨w.heap.size, 9, none⟩ = some (.slice A9 l0_9.length c9) := (blk_cell BS6.out 9).trans rfl; have kc6_0 : World.cell? w6 ⟨w.heap.size + 1, 0, none⟩ = some (.int .i64 a0_0) := (blk_cell BC6.out 0).trans rfl; have kc6_1 : World.cell? w6 ⟨w.heap.size + 1, 1, none⟩ = some (.int .i64 a0_1) := (blk_cell BC6.out 1).trans rfl; have kc6_2 : World.cell? w6 ⟨w.heap.size + 1, 2, none⟩ = some (.int .i64 a0_2) := (blk_cell BC6.out 2).trans rfl; have kc6_3 : World.cell? w6 ⟨w.heap.size + 1, 3, none⟩ = some (.int .i64 a0_3) := (blk_cell BC6.out 3).trans rfl; have kc6_4 : World.cell? w6 ⟨w.heap.size + 1, 4, none⟩ = some (.int .i64 a0_4) := (blk_cell BC6.out 4).trans rfl; have kc6_5 : World.cell? w6 ⟨w.heap.size + 1, 5, none⟩ = some (.int .i64 a0_5) := (blk_cell BC6.out 5).trans rfl))
          go_ret
          exact ⟨by simp, HB6.out⟩
/-- May a script be? -/
def okS (c : S25) (f d : List Int) (a : List (List (List S80))) (p : List Int) : Bool :=
  checkB c && decide ((f.length : Int) = c.f0) && decide (wrap64 (2 * c.f0) ≤ c.f2) && f.all (small64.in (-128) 127) && decide ((a.length : Int) = c.f1) && decide ((d.length : Int) ≤ 255) && p.all (smallT.in 0 255) && a.all (txnsB c.f0)
def script_Ok.f (a0_0 a0_1 a0_2 a0_3 a0_4 a0_5 : Int) (l0_6 l0_7 : List Int) (l0_8 : List (List (List S80))) (l0_9 : List Int) : Option Bool := some (okS ⟨a0_0, a0_1, a0_2, a0_3, a0_4, a0_5⟩ l0_6 l0_7 l0_8 l0_9)
set_option maxHeartbeats 8000000 in
theorem script_Ok.calls (a0_0 a0_1 a0_2 a0_3 a0_4 a0_5 : Int) (A6 : Option Addr) (c6 : Nat) (l0_6 : List Int) (A7 : Option Addr) (c7 : Nat) (l0_7 : List Int) (A8 : Option Addr) (c8 : Nat) (l0_8 : List (List (List S80))) (A9 : Option Addr) (c9 : Nat) (l0_9 : List Int) (r : Bool) (w : World) (hr0_6 : Kd.C (Kd.int .i64) w A6 l0_6.length l0_6) (hc0_6 : l0_6.length ≤ c6) (hr0_7 : Kd.C (Kd.int .u8) w A7 l0_7.length l0_7) (hc0_7 : l0_7.length ≤ c7) (hr0_8 : Kd.C (Kd.slice 61 (Kd.slice 80 k80)) w A8 l0_8.length l0_8) (hc0_8 : l0_8.length ≤ c8) (hr0_9 : Kd.C (Kd.int .i64) w A9 l0_9.length l0_9) (hc0_9 : l0_9.length ≤ c9) (h : script_Ok.f a0_0 a0_1 a0_2 a0_3 a0_4 a0_5 l0_6 l0_7 l0_8 l0_9 = some r) :
    Calls Try.prog 17 #[.agg #[.int .i64 a0_0, .int .i64 a0_1, .int .i64 a0_2, .int .i64 a0_3, .int .i64 a0_4, .int .i64 a0_5, .slice A6 l0_6.length c6, .slice A7 l0_7.length c7, .slice A8 l0_8.length c8, .slice A9 l0_9.length c9]] w fun e w' => e = .returned (.bool r) ∧ Below w.heap.size w w' := by
  obtain rfl := Option.some.inj h
  refine okWalk a0_0 a0_1 a0_2 a0_3 a0_4 a0_5 A6 c6 l0_6 A7 c7 l0_7 A8 c8 l0_8 A9 c9 l0_9 w (checkB ⟨a0_0, a0_1, a0_2, a0_3, a0_4, a0_5⟩) (l0_6.all (small64.in (-128) 127)) (l0_9.all (smallT.in 0 255)) (l0_8.all (txnsB a0_0)) (fun W => ?_) (fun W hW => ?_) (fun W hW => ?_) (fun W hW hc => ?_) (Kd.C_max hr0_6) (Kd.C_max hr0_7) (Kd.C_max hr0_8)
  · exact (floor_Check.calls a0_0 a0_1 a0_2 a0_3 a0_4 a0_5 _ W (check_f ⟨a0_0, a0_1, a0_2, a0_3, a0_4, a0_5⟩)).mono fun e w' h => h
  · exact small64.calls (-128) 127 A6 c6 l0_6 W (Kd.C_below hr0_6 hW)
  · exact smallT.calls 0 255 A9 c9 l0_9 W (Kd.C_below hr0_9 hW)
  · exact inTx.cont (txnsB a0_0) (w.heap.size + 1) A8 c8 l0_8 W (Kd.C_below hr0_8 hW) (fun x _ A c W1 hW1 hK hl => okC.clo a0_0 a0_1 a0_2 a0_3 a0_4 a0_5 (w.heap.size + 1) x A c W1 ((hW1.cell (World.block_lt_of_cell? _ _ hc)).trans hc) hK hl)
end Go.Proofs.Ythfkgnkojhocbaa.S
end
section
namespace Go.Proofs.Ythfkgnkojhocbaa.S
open Go.RowKit Go.Proofs.YthfkgnkojhocbaaW.PrintWords Go.Proofs.YthfkgnkojhocbaaW.PrintLast Go.Proofs.YthfkgnkojhocbaaW.PrintMore
attribute [local go_sem] max2_int min2_int max_two min_two max_three min_three max_four min_four
set_option linter.unusedVariables false
set_option linter.unusedSimpArgs false
def lang_Put.l0 : Nat → List Int → List (S80) → Int → Int → Option (List Int)
  | 0, _, _, _, _ => none
  | k + 1, x3, x6, x7, x8 => if x8 < x7 then (if 0 ≤ x8 then (if x8 < (x6.length : Int) then ((some (([((rd_T80 x6 x8).f0) % 256, ((rd_T80 x6 x8).f1) % 256, ((rd_T80 x6 x8).f2) % 256] : List Int) : List Int)).bind fun y259 => (if x3.length + y259.length < 140737488355328 then (lang_Put.l0 k (x3 ++ y259) x6 x7 (wrap64 (x8 + 1))) else (none))) else (none)) else (none)) else (some x3)
def lang_Put.f (k : Nat) (l0 : List (S80)) : Option (List Int) := lang_Put.l0 k ([] : List Int) l0 (l0.length : Int) 0
theorem lang_Put.mono_l : ∀ k, (∀ y0 y1 y2 y3, LeO (lang_Put.l0 k y0 y1 y2 y3) (lang_Put.l0 (k + 1) y0 y1 y2 y3))
  | 0 => fun _ _ _ _ r h => by simp [lang_Put.l0] at h
  | k + 1 => by
    have ih0 := lang_Put.mono_l k
    · intro y0 y1 y2 y3
      unfold lang_Put.l0
      repeat' first
      | (with_reducible exact ih0 _ _ _ _)
      | (with_reducible exact LeO.refl _)
      | (with_reducible exact LeO.none _)
      | (with_reducible refine LeO.ite ?_ ?_)
      | (with_reducible refine LeO.bind ?_ (fun _ => ?_))
      | exact ih0 _ _ _ _
      | exact LeO.none _
      | refine LeO.ite ?_ ?_
      | refine LeO.bind ?_ (fun _ => ?_)
theorem lang_Put.mono : ∀ a0 k, LeO (lang_Put.f k a0) (lang_Put.f (k + 1) a0) := by
  intro a0 k
  have ih0 := lang_Put.mono_l k
  unfold lang_Put.f
  repeat' first
      | (with_reducible exact ih0 _ _ _ _)
      | (with_reducible exact LeO.refl _)
      | (with_reducible exact LeO.none _)
      | (with_reducible refine LeO.ite ?_ ?_)
      | (with_reducible refine LeO.bind ?_ (fun _ => ?_))
      | exact ih0 _ _ _ _
      | exact LeO.none _
      | refine LeO.ite ?_ ?_
      | refine LeO.bind ?_ (fun _ => ?_)
set_option maxHeartbeats 8000000 in
set_option maxRecDepth 100000 in
theorem lang_Put.calls (k : Nat) (A0 : Option Addr) (c0 : Nat) (l0 : List (S80)) (r : List Int) (w : World) (hr0 : Kd.C k80 w A0 l0.length l0) (hc0 : l0.length ≤ c0) (h : lang_Put.f k l0 = some r) :
  Calls Try.prog 33 #[.slice A0 l0.length c0] w fun e w' => ∃ v0_ : Value, e = .returned (v0_) ∧ Kd.R (Kd.int .u8) 5 w' w.heap.size (fun _ => True) v0_ r ∧ Below w.heap.size w w' := by
 have hu80 := Try.underlying80
 have HR0 := Aside0.mk hr0
 have HC0 := Aside0.mk hc0
 clear hr0 hc0
 have HB := Aside0.mk (Below.refl w.heap.size w)
 have H : (lang_Put.l0 k ([] : List Int) l0 (l0.length : Int) 0) = some r := h
 clear h
 have H' := Aside0.mk H
 clear H
 go_enter Try.func33, Try.ntmps33
 go_wp2
 go_loopg [3, 8] k (fun kq v3 v8 w' => ∃ (x3_1 : List Int) (x8_1 : Int), v8 = .int .i64 x8_1 ∧ Aside0 (lang_Put.l0 kq x3_1 l0 (l0.length : Int) x8_1 = some r) ∧ Aside0 (kq ≤ k) ∧ Aside0 (Kd.R (Kd.int .u8) 5 w' w.heap.size (fun _ => True) v3 x3_1) ∧ Aside0 (Below w.heap.size w w'))
 case atStart => exact ⟨(([] : List Int)), (0), (by first | rfl | (simp; done) | (simp [*]; done)), H', ⟨Nat.le_refl _⟩, ⟨by first | exact Kd.R_nil _ _ _ _ _ | exact Kd.N_nil _ _ _ _ _ | exact Kd.V_nil _ _ _ _ _ | exact Kd.Q_nil _ _ _ _ _ | exact Kd.S_nil _ _ _ _ _⟩, ⟨by repeat (first | (with_reducible first | exact HB.out | apply bwA | apply bwN | apply bw1) | exact HB.out)⟩⟩
 case round =>
  clear H'
  obtain ⟨x3_1, x8_1, rfl, HA, HK1, HO_3, HB⟩ := hrel
  cases gk with
  | zero => exact absurd HA.out (by simp [lang_Put.l0])
  | succ k1 =>
   have H := HA.out
   clear HA
   simp only [lang_Put.l0] at H
   by_cases c2 : x8_1 < (l0.length : Int)
   ·rw [if_pos c2] at H
    have c2b0 : decide (x8_1 < (l0.length : Int)) = true := decide_eq_true c2
    clear c2
    by_cases c3 : 0 ≤ x8_1
    ·rw [if_pos c3] at H
     have c3b0 : decide (0 ≤ x8_1) = true := decide_eq_true c3
     clear c3
     by_cases c4 : x8_1 < (l0.length : Int)
     ·rw [if_pos c4] at H
      have c4b0 : decide (x8_1 < (l0.length : Int)) = true := decide_eq_true c4
      clear c4
      obtain ⟨y259, hy259⟩ : ∃ y_ : List Int, y_ = (([((rd_T80 l0 x8_1).f0) % 256, ((rd_T80 l0 x8_1).f1) % 256, ((rd_T80 l0 x8_1).f2) % 256] : List Int)) := ⟨_, rfl⟩
      replace H : (if x3_1.length + y259.length < 140737488355328 then (lang_Put.l0 k1 (x3_1 ++ y259) l0 (l0.length : Int) (wrap64 (x8_1 + 1))) else (none)) = some r := by first | (rw [hy259]; with_reducible exact H) | (have H2_ := (Option.bind_some _ _).symm.trans H; rw [hy259]; with_reducible exact H2_) | (have H2_ := (Option.bind_some _ _).symm.trans H; with_reducible exact H2_) | with_reducible exact H | (rw [hy259]; exact H) | exact H
      have Ny259 := Aside0.mk hy259
      clear hy259
      by_cases c5 : x3_1.length + y259.length < 140737488355328
      ·rw [if_pos c5] at H
       have LMc5 := Aside0.mk c5
       clear c5
       obtain ⟨y262, hy262⟩ : ∃ y_ : List Int, y_ = (x3_1 ++ y259) := ⟨_, rfl⟩
       replace H : (lang_Put.l0 k1 y262 l0 (l0.length : Int) (wrap64 (x8_1 + 1))) = some r := by first | (rw [hy262]; with_reducible exact H) | (have H2_ := (Option.bind_some _ _).symm.trans H; rw [hy262]; with_reducible exact H2_) | (have H2_ := (Option.bind_some _ _).symm.trans H; with_reducible exact H2_) | with_reducible exact H | (rw [hy262]; exact H) | exact H
       have Ny262 := Aside0.mk hy262
       clear hy262
       have H' := Aside0.mk H
       clear H
       have p257 : 0 ≤ (x8_1 : Int) := of_decide_eq_true (by first | (with_reducible assumption) | assumption)
       have q257 : x8_1 < (l0.length : Int) := of_decide_eq_true (by first | (with_reducible assumption) | assumption)
       obtain ⟨ad257, e257, hx257_0, hx257_1, hx257_2⟩ := at_T80 HR0.out x8_1 p257 q257
       cases e257
       replace hx257_0 := (HB.out.cell (World.block_lt_of_cell? w _ hx257_0)).trans hx257_0
       replace hx257_1 := (HB.out.cell (World.block_lt_of_cell? w _ hx257_1)).trans hx257_1
       replace hx257_2 := (HB.out.cell (World.block_lt_of_cell? w _ hx257_2)).trans hx257_2
       replace p257 := eq_true p257
       replace q257 := eq_true q257
       go_wp2_with (first | ((with_reducible refine gate_dst (N := 5) rfl ?_); refine box_event ?hg (N := 5) ?hd (cs := #[.int .i64 0, .int .i64 0, .int .i64 0]) (t := 80) ?hr ?_; (case hd => rfl); (case hg => rfl); (case hr => first | (go_simp; done) | (go_simp; rfl)); intro gb258 hg w6 hbox hb; have n0_ := Aside0.mk (Kd.R_below (by (with_reducible repeat (first | apply Kd.R_alloc | apply Kd.R_drewN | apply Kd.R_drew)); exact HO_3.out) hb); have n1_ := Aside0.mk (below_step (by repeat (first | (with_reducible first | exact HB.out | apply bwA | apply bwN | apply bw1) | exact HB.out)) hb); have n2_ := Aside0.mk (hbox); have n3_ := Aside0.mk ((by rw [hg]; exact (below_size (by repeat (first | (with_reducible first | exact HB.out | apply bwA | apply bwN | apply bw1) | exact HB.out))) : w.heap.size ≤ gb258)); have n4_ := Aside0.mk ((by rw [hg]; exact (below_size (by repeat (first | (with_reducible first | exact HB.out | apply bwA | apply bwN | apply bw1) | exact HB.out))) : w.heap.size ≤ gb258)); clear HO_3; clear HB; have HO_3 := n0_; have HB := n1_; have BK258 := n2_; have GW258 := n3_; have GE258 := n4_; clear n0_ n1_ n2_ n3_ n4_; clear hb hbox hg; have hcz7_0 : w6.cell? ⟨gb258, 0, none⟩ = some (.int .i64 0) := (blk_cell BK258.out 0).trans rfl; have hcz7_1 : w6.cell? ⟨gb258, 1, none⟩ = some (.int .i64 0) := (blk_cell BK258.out 1).trans rfl; have hcz7_2 : w6.cell? ⟨gb258, 2, none⟩ = some (.int .i64 0) := (blk_cell BK258.out 2).trans rfl; have hfz7_0 := blk_frozen BK258.out 0; have hfz7_1 := blk_frozen BK258.out 1; have hfz7_2 := blk_frozen BK258.out 2) | ((with_reducible refine gate_dst (N := 22) rfl ?_); refine Kd.R_lit (Kd.int .u8) _ 5 ?hg (N := 22) ?hd (xs := ([((rd_T80 l0 x8_1).f0) % 256, ((rd_T80 l0 x8_1).f1) % 256, ((rd_T80 l0 x8_1).f2) % 256] : List Int)) (inner := [.int .u8 (((rd_T80 l0 x8_1).f0) % 256), .int .u8 (((rd_T80 l0 x8_1).f1) % 256), .int .u8 (((rd_T80 l0 x8_1).f2) % 256)]) (ok := fun _ => True) (okp := fun _ => True) ?hr ?hp (fun _ hk => hk) trivial (Below.refl _ _) (Nat.le_refl _) (by simp) ?_; (case hd => rfl); (case hg => rfl); (case hr => first | (go_simp; done) | (go_simp; rfl)); (case hp => exact (Reps.one (show Kd.M (Kd.int .u8) _ _ _ (((rd_T80 l0 x8_1).f0) % 256) [.int .u8 (((rd_T80 l0 x8_1).f0) % 256)] from rfl) (Reps.one (show Kd.M (Kd.int .u8) _ _ _ (((rd_T80 l0 x8_1).f1) % 256) [.int .u8 (((rd_T80 l0 x8_1).f1) % 256)] from rfl) (Reps.one (show Kd.M (Kd.int .u8) _ _ _ (((rd_T80 l0 x8_1).f2) % 256) [.int .u8 (((rd_T80 l0 x8_1).f2) % 256)] from rfl) (Reps.none _ _))))); intro v260 w8 ho9 hb hg_ hnew_; clear hg_ hnew_; (first | rw [← Ny259.out] at ho9 | (simp only [Int.reduceToNat] at ho9; rw [← Ny259.out] at ho9)); have n0_ := Aside0.mk (Kd.R_elder' (by (with_reducible repeat (first | apply Kd.R_alloc | apply Kd.R_drewN | apply Kd.R_drew)); exact (Kd.R_mono (Kd.R_far (p := ⟨gb258, 2, none⟩) (Kd.R_far (p := ⟨gb258, 1, none⟩) (Kd.R_far (p := ⟨gb258, 0, none⟩) (Kd.R_types HO_3.out BK258.out (by decide)) (fun _ hk => hk.2) (.int .i64 ((rd_T80 l0 x8_1).f0))) (fun _ hk => hk.2) (.int .i64 ((rd_T80 l0 x8_1).f1))) (fun _ hk => hk.2) (.int .i64 ((rd_T80 l0 x8_1).f2))) (fun _ h_ => h_.1))) (Kd.R_base ho9) hb); have n1_ := Aside0.mk (Kd.R_lower (Kd.R_new' ho9 (Kd.R_lt (by (with_reducible repeat (first | apply Kd.R_alloc | apply Kd.R_drewN | apply Kd.R_drew)); exact (Kd.R_mono (Kd.R_far (p := ⟨gb258, 2, none⟩) (Kd.R_far (p := ⟨gb258, 1, none⟩) (Kd.R_far (p := ⟨gb258, 0, none⟩) (Kd.R_types HO_3.out BK258.out (by decide)) (fun _ hk => hk.2) (.int .i64 ((rd_T80 l0 x8_1).f0))) (fun _ hk => hk.2) (.int .i64 ((rd_T80 l0 x8_1).f1))) (fun _ hk => hk.2) (.int .i64 ((rd_T80 l0 x8_1).f2))) (fun _ h_ => h_.1))))) (below_size (by repeat (first | (with_reducible first | exact HB.out | apply bwA | apply bwN | apply bw1 | refine bwS ?_ GE258.out) | exact HB.out)))); have n2_ := Aside0.mk (blk_below (g := gb258) (o := .cells #[.int .i64 ((rd_T80 l0 x8_1).f0), .int .i64 ((rd_T80 l0 x8_1).f1), .int .i64 ((rd_T80 l0 x8_1).f2)] 80 (0, 0)) (by (with_reducible repeat (first | refine blk_drewN ?_ _ | refine blk_drew ?_ | refine blk_alloc ?_ _)); refine blk_put (cs := #[.int .i64 ((rd_T80 l0 x8_1).f0), .int .i64 ((rd_T80 l0 x8_1).f1), .int .i64 0]) ?_ 2 _ rfl; (with_reducible repeat (first | refine blk_drewN ?_ _ | refine blk_drew ?_ | refine blk_alloc ?_ _)); refine blk_put (cs := #[.int .i64 ((rd_T80 l0 x8_1).f0), .int .i64 0, .int .i64 0]) ?_ 1 _ rfl; (with_reducible repeat (first | refine blk_drewN ?_ _ | refine blk_drew ?_ | refine blk_alloc ?_ _)); refine blk_put (cs := #[.int .i64 0, .int .i64 0, .int .i64 0]) ?_ 0 _ rfl; (with_reducible repeat (first | refine blk_drewN ?_ _ | refine blk_drew ?_ | refine blk_alloc ?_ _)); exact BK258.out) hb); have n3_ := Aside0.mk (below_step (by repeat (first | (with_reducible first | exact HB.out | apply bwA | apply bwN | apply bw1 | refine bwS ?_ GE258.out) | exact HB.out)) hb); clear HO_3; clear BK258; clear HB; have HO_3 := n0_; have HO261 := n1_; have BK258 := n2_; have HB := n3_; clear n0_ n1_ n2_ n3_; clear hb ho9; obtain ⟨Ao11, co11, eo11⟩ := Kd.R_slice HO261.out; subst eo11) | ((with_reducible refine gate_builtin (b := .append) (xs := #[.tmp 12, .tmp 22]) rfl ?_); at_builtin; refine Kd.R_append_rows (Kd.int .u8) (w0 := w) w.heap.size rfl (.tmp 12) (.tmp 22) 22 5 (.int .u8 0) 1 rfl Try.underlying22 info5 rfl (by decide) (by omega) u3 x3_1 y259 _ _ _ (fun k_ => some k_ ≠ (.slice Ao11 y259.length co11 : Value).ownBlock) (fun _ => False) rfl rfl ?aO ?aR (fun _ _ h => h) (fun _ h => h.elim) ?aF ?aB ?aS ?aL ?_; (case aR => repeat (first | exact (Kd.R_reads' HO261.out).2.2 | (with_reducible refine Kd.C_alloc ?_ _) | (with_reducible refine Kd.C_drewN ?_ _) | (with_reducible refine Kd.C_drew ?_))); (case aB => exact (by repeat (first | (with_reducible first | exact HB.out | apply bwA | apply bwN | apply bw1 | refine bwS ?_ GE258.out) | exact HB.out))); (case aF => exact (fun k_ hk => Kd.fresh' (Kd.R_lt (by (with_reducible repeat (first | apply Kd.R_alloc | apply Kd.R_drewN | apply Kd.R_drew)); exact HO261.out)) k_ hk)); (case aO => exact (by (with_reducible repeat (first | apply Kd.R_alloc | apply Kd.R_drewN | apply Kd.R_drew)); exact Kd.R_mono HO_3.out (fun _ hk => hk.2))); (case aS => exact (below_size (by repeat (first | (with_reducible first | exact HB.out | apply bwA | apply bwN | apply bw1 | refine bwS ?_ GE258.out) | exact HB.out)))); (case aL => have := LMc5.out; omega); intro v263 w10 ho hb hg hat; rw [← Ny262.out] at ho; have n0_ := Aside0.mk (blk_grown (g := gb258) (o := .cells #[.int .i64 ((rd_T80 l0 x8_1).f0), .int .i64 ((rd_T80 l0 x8_1).f1), .int .i64 ((rd_T80 l0 x8_1).f2)] 80 (0, 0)) (by (with_reducible repeat (first | refine blk_drewN ?_ _ | refine blk_drew ?_ | refine blk_alloc ?_ _)); exact BK258.out) hg (Kd.R_ne HO_3.out BK258.out (by decide))); have n1_ := Aside0.mk (Kd.R_after (ok := (fun _ => True)) (by (with_reducible repeat (first | apply Kd.R_alloc | apply Kd.R_drewN | apply Kd.R_drew)); exact HO261.out) hg hat); have n2_ := Aside0.mk (hb); have n3_ := Aside0.mk (ho); clear BK258; clear HO261; clear HB; clear HO_3; have BK258 := n0_; have HO261 := n1_; have HB := n2_; have HO264 := n3_; clear n0_ n1_ n2_ n3_; clear ho hb hg hat))
       go_roundg k1
       case measure => have := HK1.out; omega
       case rel => exact ⟨(y262), (wrap64 (x8_1 + 1)), (by first | rfl | (simp; done) | (simp [*]; done)), H', ⟨by have := HK1.out; omega⟩, ⟨by (with_reducible repeat (first | apply Kd.R_alloc | apply Kd.R_drewN | apply Kd.R_drew)); exact Kd.R_mono HO264.out (fun _ hk => trivial)⟩, ⟨by repeat (first | (with_reducible first | exact HB.out | apply bwA | apply bwN | apply bw1 | refine bwS ?_ GE258.out) | exact HB.out)⟩⟩
      ·rw [if_neg c5] at H
       exact absurd H (by simp)
     ·rw [if_neg c4] at H
      exact absurd H (by simp)
    ·rw [if_neg c3] at H
     exact absurd H (by simp)
   ·rw [if_neg c2] at H
    have c2b0 : decide (x8_1 < (l0.length : Int)) = false := decide_eq_false c2
    clear c2
    obtain rfl := Option.some.inj H
    go_wp2
    go_ret
    exact ⟨_, by first | rfl | (simp [errW_none, errW_some] <;> rfl) | (simp [*, errW_none, errW_some] <;> rfl), by (with_reducible repeat (first | apply Kd.R_alloc | apply Kd.R_drewN | apply Kd.R_drew)); exact HO_3.out, by repeat (first | (with_reducible first | exact HB.out | apply bwA | apply bwN | apply bw1) | exact HB.out)⟩
end Go.Proofs.Ythfkgnkojhocbaa.S
end
