/- Part 3 of the proof of scriptBack_holds. Conditions stand in each theorem; nothing is assumed. Gathered by a program of this session out of its texts and the kit's words. -/
import Derived.Test.YthfkgnkojhocbaaZB2
section
namespace Go.Proofs.Ythfkgnkojhocbaa.S
open Go.RowKit Go.Proofs.YthfkgnkojhocbaaW.PrintWords Go.Proofs.YthfkgnkojhocbaaW.PrintLast Go.Proofs.YthfkgnkojhocbaaW.PrintMore
attribute [local go_sem] max2_int min2_int max_two min_two max_three min_three max_four min_four
set_option linter.unusedVariables false
set_option linter.unusedSimpArgs false
attribute [local go_sem high] eqA25
mutual
def quarrellaw20_same.j0 : Nat → Bool → Int → Int → Int → Int → Int → Int → List Int → List Int → List (List (List (S80))) → List Int → Int → Int → Int → Int → Int → Int → List Int → List Int → List (List (List (S80))) → List Int → Option (Bool)
  | 0, _, _, _, _, _, _, _, _, _, _, _, _, _, _, _, _, _, _, _, _, _ => none
  | k + 1, x45, x174000, x174001, x174002, x174003, x174004, x174005, x174006, x174007, x174008, x174009, x175000, x175001, x175002, x175003, x175004, x175005, x175006, x175007, x175008, x175009 => if x45 = true then (some false) else (quarrellaw20_same.l0 k 0 x174000 x174001 x174002 x174003 x174004 x174005 x174006 x174007 x174008 x174009 x175000 x175001 x175002 x175003 x175004 x175005 x175006 x175007 x175008 x175009)
def quarrellaw20_same.l0 : Nat → Int → Int → Int → Int → Int → Int → Int → List Int → List Int → List (List (List (S80))) → List Int → Int → Int → Int → Int → Int → Int → List Int → List Int → List (List (List (S80))) → List Int → Option (Bool)
  | 0, _, _, _, _, _, _, _, _, _, _, _, _, _, _, _, _, _, _, _, _, _ => none
  | k + 1, x5, x174000, x174001, x174002, x174003, x174004, x174005, x174006, x174007, x174008, x174009, x175000, x175001, x175002, x175003, x175004, x175005, x175006, x175007, x175008, x175009 => if x5 < (x174008.length : Int) then (if 0 ≤ x5 then (if x5 < (x175008.length : Int) then (if ((rd_L7 x174008 x5).length : Int) = ((rd_L7 x175008 x5).length : Int) then (quarrellaw20_same.l1 k x5 0 x174000 x174001 x174002 x174003 x174004 x174005 x174006 x174007 x174008 x174009 x175000 x175001 x175002 x175003 x175004 x175005 x175006 x175007 x175008 x175009) else (some false)) else (none)) else (none)) else (some true)
def quarrellaw20_same.l1 : Nat → Int → Int → Int → Int → Int → Int → Int → Int → List Int → List Int → List (List (List (S80))) → List Int → Int → Int → Int → Int → Int → Int → List Int → List Int → List (List (List (S80))) → List Int → Option (Bool)
  | 0, _, _, _, _, _, _, _, _, _, _, _, _, _, _, _, _, _, _, _, _, _, _ => none
  | k + 1, x5, x6, x174000, x174001, x174002, x174003, x174004, x174005, x174006, x174007, x174008, x174009, x175000, x175001, x175002, x175003, x175004, x175005, x175006, x175007, x175008, x175009 => if 0 ≤ x5 then (if x5 < (x174008.length : Int) then (if x6 < ((rd_L7 x174008 x5).length : Int) then (if 0 ≤ x6 then (if x5 < (x175008.length : Int) then (if x6 < ((rd_L7 x175008 x5).length : Int) then ((quarrelref11_Same.f k (rd_L6 (rd_L7 x174008 x5) x6) (rd_L6 (rd_L7 x175008 x5) x6)).bind fun t184 => (if t184 = true then (quarrellaw20_same.l1 k x5 (wrap64 (x6 + 1)) x174000 x174001 x174002 x174003 x174004 x174005 x174006 x174007 x174008 x174009 x175000 x175001 x175002 x175003 x175004 x175005 x175006 x175007 x175008 x175009) else (some false))) else (none)) else (none)) else (none)) else (quarrellaw20_same.l0 k (wrap64 (x5 + 1)) x174000 x174001 x174002 x174003 x174004 x174005 x174006 x174007 x174008 x174009 x175000 x175001 x175002 x175003 x175004 x175005 x175006 x175007 x175008 x175009)) else (none)) else (none)
end
def quarrellaw20_same.f (k : Nat) (a0_0 : Int) (a0_1 : Int) (a0_2 : Int) (a0_3 : Int) (a0_4 : Int) (a0_5 : Int) (l0_6 : List Int) (l0_7 : List Int) (l0_8 : List (List (List (S80)))) (l0_9 : List Int) (a1_0 : Int) (a1_1 : Int) (a1_2 : Int) (a1_3 : Int) (a1_4 : Int) (a1_5 : Int) (l1_6 : List Int) (l1_7 : List Int) (l1_8 : List (List (List (S80)))) (l1_9 : List Int) : Option (Bool) := if (!(a0_0 == a1_0) || (!(a0_1 == a1_1) || (!(a0_2 == a1_2) || (!(a0_3 == a1_3) || (!(a0_4 == a1_4) || (!(a0_5 == a1_5))))))) = true then (quarrellaw20_same.j0 k true a0_0 a0_1 a0_2 a0_3 a0_4 a0_5 l0_6 l0_7 l0_8 l0_9 a1_0 a1_1 a1_2 a1_3 a1_4 a1_5 l1_6 l1_7 l1_8 l1_9) else ((quarrelref01_Vals.f k l0_6 l1_6).bind fun t175 => (if t175 = true then (if (strOfNums l0_7).toList = (strOfNums l1_7).toList then ((quarrelref01_Ints.f k l0_9 l1_9).bind fun t176 => (if t176 = true then (quarrellaw20_same.j0 k ((l0_8.length : Int) != (l1_8.length : Int)) a0_0 a0_1 a0_2 a0_3 a0_4 a0_5 l0_6 l0_7 l0_8 l0_9 a1_0 a1_1 a1_2 a1_3 a1_4 a1_5 l1_6 l1_7 l1_8 l1_9) else (quarrellaw20_same.j0 k true a0_0 a0_1 a0_2 a0_3 a0_4 a0_5 l0_6 l0_7 l0_8 l0_9 a1_0 a1_1 a1_2 a1_3 a1_4 a1_5 l1_6 l1_7 l1_8 l1_9))) else (quarrellaw20_same.j0 k true a0_0 a0_1 a0_2 a0_3 a0_4 a0_5 l0_6 l0_7 l0_8 l0_9 a1_0 a1_1 a1_2 a1_3 a1_4 a1_5 l1_6 l1_7 l1_8 l1_9)) else (quarrellaw20_same.j0 k true a0_0 a0_1 a0_2 a0_3 a0_4 a0_5 l0_6 l0_7 l0_8 l0_9 a1_0 a1_1 a1_2 a1_3 a1_4 a1_5 l1_6 l1_7 l1_8 l1_9)))
theorem quarrellaw20_same.mono_l : ∀ k, (∀ y0 y1 y2 y3 y4 y5 y6 y7 y8 y9 y10 y11 y12 y13 y14 y15 y16 y17 y18 y19 y20, LeO (quarrellaw20_same.j0 k y0 y1 y2 y3 y4 y5 y6 y7 y8 y9 y10 y11 y12 y13 y14 y15 y16 y17 y18 y19 y20) (quarrellaw20_same.j0 (k + 1) y0 y1 y2 y3 y4 y5 y6 y7 y8 y9 y10 y11 y12 y13 y14 y15 y16 y17 y18 y19 y20)) ∧ (∀ y0 y1 y2 y3 y4 y5 y6 y7 y8 y9 y10 y11 y12 y13 y14 y15 y16 y17 y18 y19 y20, LeO (quarrellaw20_same.l0 k y0 y1 y2 y3 y4 y5 y6 y7 y8 y9 y10 y11 y12 y13 y14 y15 y16 y17 y18 y19 y20) (quarrellaw20_same.l0 (k + 1) y0 y1 y2 y3 y4 y5 y6 y7 y8 y9 y10 y11 y12 y13 y14 y15 y16 y17 y18 y19 y20)) ∧ (∀ y0 y1 y2 y3 y4 y5 y6 y7 y8 y9 y10 y11 y12 y13 y14 y15 y16 y17 y18 y19 y20 y21, LeO (quarrellaw20_same.l1 k y0 y1 y2 y3 y4 y5 y6 y7 y8 y9 y10 y11 y12 y13 y14 y15 y16 y17 y18 y19 y20 y21) (quarrellaw20_same.l1 (k + 1) y0 y1 y2 y3 y4 y5 y6 y7 y8 y9 y10 y11 y12 y13 y14 y15 y16 y17 y18 y19 y20 y21))
  | 0 => ⟨fun _ _ _ _ _ _ _ _ _ _ _ _ _ _ _ _ _ _ _ _ _ r h => by simp [quarrellaw20_same.j0] at h, fun _ _ _ _ _ _ _ _ _ _ _ _ _ _ _ _ _ _ _ _ _ r h => by simp [quarrellaw20_same.l0] at h, fun _ _ _ _ _ _ _ _ _ _ _ _ _ _ _ _ _ _ _ _ _ _ r h => by simp [quarrellaw20_same.l1] at h⟩
  | k + 1 => by
    obtain ⟨ih0, ih1, ih2⟩ := quarrellaw20_same.mono_l k
    refine ⟨?_, ?_, ?_⟩
    · intro y0 y1 y2 y3 y4 y5 y6 y7 y8 y9 y10 y11 y12 y13 y14 y15 y16 y17 y18 y19 y20
      unfold quarrellaw20_same.j0
      repeat' first
      | (with_reducible exact ih0 _ _ _ _ _ _ _ _ _ _ _ _ _ _ _ _ _ _ _ _ _)
      | (with_reducible exact ih1 _ _ _ _ _ _ _ _ _ _ _ _ _ _ _ _ _ _ _ _ _)
      | (with_reducible exact ih2 _ _ _ _ _ _ _ _ _ _ _ _ _ _ _ _ _ _ _ _ _ _)
      | (with_reducible exact quarrelref01_Ints.mono _ _ _)
      | (with_reducible exact quarrelref01_Vals.mono _ _ _)
      | (with_reducible exact quarrelref11_Same.mono _ _ _)
      | (with_reducible exact LeO.refl _)
      | (with_reducible exact LeO.none _)
      | (with_reducible refine LeO.ite ?_ ?_)
      | (with_reducible refine LeO.bind ?_ (fun _ => ?_))
      | exact ih0 _ _ _ _ _ _ _ _ _ _ _ _ _ _ _ _ _ _ _ _ _
      | exact ih1 _ _ _ _ _ _ _ _ _ _ _ _ _ _ _ _ _ _ _ _ _
      | exact ih2 _ _ _ _ _ _ _ _ _ _ _ _ _ _ _ _ _ _ _ _ _ _
      | exact quarrelref01_Ints.mono _ _ _
      | exact quarrelref01_Vals.mono _ _ _
      | exact quarrelref11_Same.mono _ _ _
      | exact LeO.none _
      | refine LeO.ite ?_ ?_
      | refine LeO.bind ?_ (fun _ => ?_)
    · intro y0 y1 y2 y3 y4 y5 y6 y7 y8 y9 y10 y11 y12 y13 y14 y15 y16 y17 y18 y19 y20
      unfold quarrellaw20_same.l0
      repeat' first
      | (with_reducible exact ih0 _ _ _ _ _ _ _ _ _ _ _ _ _ _ _ _ _ _ _ _ _)
      | (with_reducible exact ih1 _ _ _ _ _ _ _ _ _ _ _ _ _ _ _ _ _ _ _ _ _)
      | (with_reducible exact ih2 _ _ _ _ _ _ _ _ _ _ _ _ _ _ _ _ _ _ _ _ _ _)
      | (with_reducible exact quarrelref01_Ints.mono _ _ _)
      | (with_reducible exact quarrelref01_Vals.mono _ _ _)
      | (with_reducible exact quarrelref11_Same.mono _ _ _)
      | (with_reducible exact LeO.refl _)
      | (with_reducible exact LeO.none _)
      | (with_reducible refine LeO.ite ?_ ?_)
      | (with_reducible refine LeO.bind ?_ (fun _ => ?_))
      | exact ih0 _ _ _ _ _ _ _ _ _ _ _ _ _ _ _ _ _ _ _ _ _
      | exact ih1 _ _ _ _ _ _ _ _ _ _ _ _ _ _ _ _ _ _ _ _ _
      | exact ih2 _ _ _ _ _ _ _ _ _ _ _ _ _ _ _ _ _ _ _ _ _ _
      | exact quarrelref01_Ints.mono _ _ _
      | exact quarrelref01_Vals.mono _ _ _
      | exact quarrelref11_Same.mono _ _ _
      | exact LeO.none _
      | refine LeO.ite ?_ ?_
      | refine LeO.bind ?_ (fun _ => ?_)
    · intro y0 y1 y2 y3 y4 y5 y6 y7 y8 y9 y10 y11 y12 y13 y14 y15 y16 y17 y18 y19 y20 y21
      unfold quarrellaw20_same.l1
      repeat' first
      | (with_reducible exact ih0 _ _ _ _ _ _ _ _ _ _ _ _ _ _ _ _ _ _ _ _ _)
      | (with_reducible exact ih1 _ _ _ _ _ _ _ _ _ _ _ _ _ _ _ _ _ _ _ _ _)
      | (with_reducible exact ih2 _ _ _ _ _ _ _ _ _ _ _ _ _ _ _ _ _ _ _ _ _ _)
      | (with_reducible exact quarrelref01_Ints.mono _ _ _)
      | (with_reducible exact quarrelref01_Vals.mono _ _ _)
      | (with_reducible exact quarrelref11_Same.mono _ _ _)
      | (with_reducible exact LeO.refl _)
      | (with_reducible exact LeO.none _)
      | (with_reducible refine LeO.ite ?_ ?_)
      | (with_reducible refine LeO.bind ?_ (fun _ => ?_))
      | exact ih0 _ _ _ _ _ _ _ _ _ _ _ _ _ _ _ _ _ _ _ _ _
      | exact ih1 _ _ _ _ _ _ _ _ _ _ _ _ _ _ _ _ _ _ _ _ _
      | exact ih2 _ _ _ _ _ _ _ _ _ _ _ _ _ _ _ _ _ _ _ _ _ _
      | exact quarrelref01_Ints.mono _ _ _
      | exact quarrelref01_Vals.mono _ _ _
      | exact quarrelref11_Same.mono _ _ _
      | exact LeO.none _
      | refine LeO.ite ?_ ?_
      | refine LeO.bind ?_ (fun _ => ?_)
theorem quarrellaw20_same.mono : ∀ a0 a1 a2 a3 a4 a5 a6 a7 a8 a9 a10 a11 a12 a13 a14 a15 a16 a17 a18 a19 k, LeO (quarrellaw20_same.f k a0 a1 a2 a3 a4 a5 a6 a7 a8 a9 a10 a11 a12 a13 a14 a15 a16 a17 a18 a19) (quarrellaw20_same.f (k + 1) a0 a1 a2 a3 a4 a5 a6 a7 a8 a9 a10 a11 a12 a13 a14 a15 a16 a17 a18 a19) := by
  intro a0 a1 a2 a3 a4 a5 a6 a7 a8 a9 a10 a11 a12 a13 a14 a15 a16 a17 a18 a19 k
  obtain ⟨ih0, ih1, ih2⟩ := quarrellaw20_same.mono_l k
  unfold quarrellaw20_same.f
  repeat' first
      | (with_reducible exact ih0 _ _ _ _ _ _ _ _ _ _ _ _ _ _ _ _ _ _ _ _ _)
      | (with_reducible exact ih1 _ _ _ _ _ _ _ _ _ _ _ _ _ _ _ _ _ _ _ _ _)
      | (with_reducible exact ih2 _ _ _ _ _ _ _ _ _ _ _ _ _ _ _ _ _ _ _ _ _ _)
      | (with_reducible exact quarrelref01_Ints.mono _ _ _)
      | (with_reducible exact quarrelref01_Vals.mono _ _ _)
      | (with_reducible exact quarrelref11_Same.mono _ _ _)
      | (with_reducible exact LeO.refl _)
      | (with_reducible exact LeO.none _)
      | (with_reducible refine LeO.ite ?_ ?_)
      | (with_reducible refine LeO.bind ?_ (fun _ => ?_))
      | exact ih0 _ _ _ _ _ _ _ _ _ _ _ _ _ _ _ _ _ _ _ _ _
      | exact ih1 _ _ _ _ _ _ _ _ _ _ _ _ _ _ _ _ _ _ _ _ _
      | exact ih2 _ _ _ _ _ _ _ _ _ _ _ _ _ _ _ _ _ _ _ _ _ _
      | exact quarrelref01_Ints.mono _ _ _
      | exact quarrelref01_Vals.mono _ _ _
      | exact quarrelref11_Same.mono _ _ _
      | exact LeO.none _
      | refine LeO.ite ?_ ?_
      | refine LeO.bind ?_ (fun _ => ?_)
set_option maxHeartbeats 8000000 in
set_option maxRecDepth 100000 in
theorem quarrellaw20_same.calls (k : Nat) (a0_0 : Int) (a0_1 : Int) (a0_2 : Int) (a0_3 : Int) (a0_4 : Int) (a0_5 : Int) (A0_6 : Option Addr) (c0_6 : Nat) (l0_6 : List Int) (A0_7 : Option Addr) (c0_7 : Nat) (l0_7 : List Int) (A0_8 : Option Addr) (c0_8 : Nat) (l0_8 : List (List (List (S80)))) (A0_9 : Option Addr) (c0_9 : Nat) (l0_9 : List Int) (a1_0 : Int) (a1_1 : Int) (a1_2 : Int) (a1_3 : Int) (a1_4 : Int) (a1_5 : Int) (A1_6 : Option Addr) (c1_6 : Nat) (l1_6 : List Int) (A1_7 : Option Addr) (c1_7 : Nat) (l1_7 : List Int) (A1_8 : Option Addr) (c1_8 : Nat) (l1_8 : List (List (List (S80)))) (A1_9 : Option Addr) (c1_9 : Nat) (l1_9 : List Int) (r : Bool) (w : World) (hr0_6 : Kd.C (Kd.int .i64) w A0_6 l0_6.length l0_6) (hc0_6 : l0_6.length ≤ c0_6) (hr0_7 : Kd.C (Kd.int .u8) w A0_7 l0_7.length l0_7) (hc0_7 : l0_7.length ≤ c0_7) (hr0_8 : Kd.C (Kd.slice 61 (Kd.slice 80 k80)) w A0_8 l0_8.length l0_8) (hc0_8 : l0_8.length ≤ c0_8) (hr0_9 : Kd.C (Kd.int .i64) w A0_9 l0_9.length l0_9) (hc0_9 : l0_9.length ≤ c0_9) (hr1_6 : Kd.C (Kd.int .i64) w A1_6 l1_6.length l1_6) (hc1_6 : l1_6.length ≤ c1_6) (hr1_7 : Kd.C (Kd.int .u8) w A1_7 l1_7.length l1_7) (hc1_7 : l1_7.length ≤ c1_7) (hr1_8 : Kd.C (Kd.slice 61 (Kd.slice 80 k80)) w A1_8 l1_8.length l1_8) (hc1_8 : l1_8.length ≤ c1_8) (hr1_9 : Kd.C (Kd.int .i64) w A1_9 l1_9.length l1_9) (hc1_9 : l1_9.length ≤ c1_9) (h : quarrellaw20_same.f k a0_0 a0_1 a0_2 a0_3 a0_4 a0_5 l0_6 l0_7 l0_8 l0_9 a1_0 a1_1 a1_2 a1_3 a1_4 a1_5 l1_6 l1_7 l1_8 l1_9 = some r) :
  Calls Try.prog 12 #[.agg #[.int .i64 a0_0, .int .i64 a0_1, .int .i64 a0_2, .int .i64 a0_3, .int .i64 a0_4, .int .i64 a0_5, .slice A0_6 l0_6.length c0_6, .slice A0_7 l0_7.length c0_7, .slice A0_8 l0_8.length c0_8, .slice A0_9 l0_9.length c0_9], .agg #[.int .i64 a1_0, .int .i64 a1_1, .int .i64 a1_2, .int .i64 a1_3, .int .i64 a1_4, .int .i64 a1_5, .slice A1_6 l1_6.length c1_6, .slice A1_7 l1_7.length c1_7, .slice A1_8 l1_8.length c1_8, .slice A1_9 l1_9.length c1_9]] w fun e w' => e = .returned (.bool r) ∧ Below w.heap.size w w' := by
 have hu30 := Try.underlying30
 have hu34 := Try.underlying34
 have hu25 := Try.underlying25
 have HR0_6 := Aside0.mk hr0_6
 have HC0_6 := Aside0.mk hc0_6
 clear hr0_6 hc0_6
 have HR0_7 := Aside0.mk hr0_7
 have HC0_7 := Aside0.mk hc0_7
 clear hr0_7 hc0_7
 have HR0_8 := Aside0.mk hr0_8
 have HC0_8 := Aside0.mk hc0_8
 clear hr0_8 hc0_8
 have HR0_9 := Aside0.mk hr0_9
 have HC0_9 := Aside0.mk hc0_9
 clear hr0_9 hc0_9
 have HR1_6 := Aside0.mk hr1_6
 have HC1_6 := Aside0.mk hc1_6
 clear hr1_6 hc1_6
 have HR1_7 := Aside0.mk hr1_7
 have HC1_7 := Aside0.mk hc1_7
 clear hr1_7 hc1_7
 have HR1_8 := Aside0.mk hr1_8
 have HC1_8 := Aside0.mk hc1_8
 clear hr1_8 hc1_8
 have HR1_9 := Aside0.mk hr1_9
 have HC1_9 := Aside0.mk hc1_9
 clear hr1_9 hc1_9
 have HB := Aside0.mk (Below.refl w.heap.size w)
 have H : (if (!(a0_0 == a1_0) || (!(a0_1 == a1_1) || (!(a0_2 == a1_2) || (!(a0_3 == a1_3) || (!(a0_4 == a1_4) || (!(a0_5 == a1_5))))))) = true then (quarrellaw20_same.j0 k true a0_0 a0_1 a0_2 a0_3 a0_4 a0_5 l0_6 l0_7 l0_8 l0_9 a1_0 a1_1 a1_2 a1_3 a1_4 a1_5 l1_6 l1_7 l1_8 l1_9) else ((quarrelref01_Vals.f k l0_6 l1_6).bind fun t175 => (if t175 = true then (if (strOfNums l0_7).toList = (strOfNums l1_7).toList then ((quarrelref01_Ints.f k l0_9 l1_9).bind fun t176 => (if t176 = true then (quarrellaw20_same.j0 k ((l0_8.length : Int) != (l1_8.length : Int)) a0_0 a0_1 a0_2 a0_3 a0_4 a0_5 l0_6 l0_7 l0_8 l0_9 a1_0 a1_1 a1_2 a1_3 a1_4 a1_5 l1_6 l1_7 l1_8 l1_9) else (quarrellaw20_same.j0 k true a0_0 a0_1 a0_2 a0_3 a0_4 a0_5 l0_6 l0_7 l0_8 l0_9 a1_0 a1_1 a1_2 a1_3 a1_4 a1_5 l1_6 l1_7 l1_8 l1_9))) else (quarrellaw20_same.j0 k true a0_0 a0_1 a0_2 a0_3 a0_4 a0_5 l0_6 l0_7 l0_8 l0_9 a1_0 a1_1 a1_2 a1_3 a1_4 a1_5 l1_6 l1_7 l1_8 l1_9)) else (quarrellaw20_same.j0 k true a0_0 a0_1 a0_2 a0_3 a0_4 a0_5 l0_6 l0_7 l0_8 l0_9 a1_0 a1_1 a1_2 a1_3 a1_4 a1_5 l1_6 l1_7 l1_8 l1_9)))) = some r := h
 clear h
 have HC3 := Aside0.mk H
 clear H
 go_enter Try.func12, Try.ntmps12
 go_upto_region 1 with (first | ((with_reducible refine gate_dst (N := 2) rfl ?_); (try (refine gate_guard (by rfl) ?_; dsimp only)); refine box_event ?hg (N := 2) ?hd (cs := #[.int .i64 a0_0, .int .i64 a0_1, .int .i64 a0_2, .int .i64 a0_3, .int .i64 a0_4, .int .i64 a0_5, .slice A0_6 l0_6.length c0_6, .slice A0_7 l0_7.length c0_7, .slice A0_8 l0_8.length c0_8, .slice A0_9 l0_9.length c0_9]) (t := 30) ?hr ?_; (case hd => rfl); (case hg => rfl); (case hr => first | (go_simp; done) | (go_simp; rfl)); intro gb173 hg w4 hbox hb; have n0_ := Aside0.mk (below_step (by repeat (first | (with_reducible first | exact HB.out | apply below_alloc | apply pw_below_drewN | apply below_drew1) | exact HB.out)) hb); have n1_ := Aside0.mk (hbox); have n2_ := Aside0.mk ((by rw [hg]; exact (below_size (by repeat (first | (with_reducible first | exact HB.out | apply below_alloc | apply pw_below_drewN | apply below_drew1) | exact HB.out))) : w.heap.size ≤ gb173)); have n3_ := Aside0.mk ((by rw [hg]; exact (below_size (by repeat (first | (with_reducible first | exact HB.out | apply below_alloc | apply pw_below_drewN | apply below_drew1) | exact HB.out))) : w.heap.size ≤ gb173)); clear HB; have HB := n0_; have BK173 := n1_; have GW173 := n2_; have GE173 := n3_; clear n0_ n1_ n2_ n3_; clear hb hbox hg) | ((with_reducible refine gate_dst (N := 3) rfl ?_); (try (refine gate_guard (by rfl) ?_; dsimp only)); refine box_event ?hg (N := 3) ?hd (cs := #[.int .i64 a1_0, .int .i64 a1_1, .int .i64 a1_2, .int .i64 a1_3, .int .i64 a1_4, .int .i64 a1_5, .slice A1_6 l1_6.length c1_6, .slice A1_7 l1_7.length c1_7, .slice A1_8 l1_8.length c1_8, .slice A1_9 l1_9.length c1_9]) (t := 34) ?hr ?_; (case hd => rfl); (case hg => rfl); (case hr => first | (go_simp; done) | (go_simp; rfl)); intro gb174 hg w5 hbox hb; have n0_ := Aside0.mk (blk_below (g := gb173) (o := .cells #[.int .i64 a0_0, .int .i64 a0_1, .int .i64 a0_2, .int .i64 a0_3, .int .i64 a0_4, .int .i64 a0_5, .slice A0_6 l0_6.length c0_6, .slice A0_7 l0_7.length c0_7, .slice A0_8 l0_8.length c0_8, .slice A0_9 l0_9.length c0_9] 30 (0, 0)) (by (with_reducible repeat (first | refine blk_drewN ?_ _ | refine blk_drew ?_ | refine blk_alloc ?_ _)); exact BK173.out) hb); have n1_ := Aside0.mk (below_step (by repeat (first | (with_reducible first | exact HB.out | apply below_alloc | apply pw_below_drewN | apply below_drew1 | refine below_set ?_ GE173.out) | exact HB.out)) hb); have n2_ := Aside0.mk (hbox); have n3_ := Aside0.mk ((by rw [hg]; exact (below_size (by repeat (first | (with_reducible first | exact HB.out | apply below_alloc | apply pw_below_drewN | apply below_drew1 | refine below_set ?_ GE173.out) | exact HB.out))) : w.heap.size ≤ gb174)); have n4_ := Aside0.mk ((by rw [hg]; exact (below_size (by repeat (first | (with_reducible first | exact HB.out | apply below_alloc | apply pw_below_drewN | apply below_drew1 | refine below_set ?_ GE173.out) | exact HB.out))) : w.heap.size ≤ gb174)); have n5_ := Aside0.mk ((by rw [hg]; exact Nat.ne_of_lt (blk_lt (g := gb173) (o := .cells #[.int .i64 a0_0, .int .i64 a0_1, .int .i64 a0_2, .int .i64 a0_3, .int .i64 a0_4, .int .i64 a0_5, .slice A0_6 l0_6.length c0_6, .slice A0_7 l0_7.length c0_7, .slice A0_8 l0_8.length c0_8, .slice A0_9 l0_9.length c0_9] 30 (0, 0)) (by (with_reducible repeat (first | refine blk_drewN ?_ _ | refine blk_drew ?_ | refine blk_alloc ?_ _)); exact BK173.out)) : gb173 ≠ gb174)); have n6_ := Aside0.mk ((by rw [hg]; exact Nat.ne_of_gt (blk_lt (g := gb173) (o := .cells #[.int .i64 a0_0, .int .i64 a0_1, .int .i64 a0_2, .int .i64 a0_3, .int .i64 a0_4, .int .i64 a0_5, .slice A0_6 l0_6.length c0_6, .slice A0_7 l0_7.length c0_7, .slice A0_8 l0_8.length c0_8, .slice A0_9 l0_9.length c0_9] 30 (0, 0)) (by (with_reducible repeat (first | refine blk_drewN ?_ _ | refine blk_drew ?_ | refine blk_alloc ?_ _)); exact BK173.out)) : gb174 ≠ gb173)); clear BK173; clear HB; have BK173 := n0_; have HB := n1_; have BK174 := n2_; have GW174 := n3_; have GE174 := n4_; have NB173_174 := n5_; have NB174_173 := n6_; clear n0_ n1_ n2_ n3_ n4_ n5_ n6_; clear hb hbox hg))
 (try simp only [Act.put, List.setIfInBounds_toArray, List.set_cons_zero, List.set_cons_succ])
 go_cut [45] (fun v45 wc => ∃ (kq : Nat) (x45_2 : Bool), v45 = .bool x45_2 ∧ Aside0 (quarrellaw20_same.j0 kq x45_2 a0_0 a0_1 a0_2 a0_3 a0_4 a0_5 l0_6 l0_7 l0_8 l0_9 a1_0 a1_1 a1_2 a1_3 a1_4 a1_5 l1_6 l1_7 l1_8 l1_9 = some r) ∧ Aside0 (kq ≤ k) ∧ Aside0 (wc.heap[gb173]? = some (.cells #[.int .i64 a0_0, .int .i64 a0_1, .int .i64 a0_2, .int .i64 a0_3, .int .i64 a0_4, .int .i64 a0_5, (.slice A0_6 l0_6.length c0_6), (.slice A0_7 l0_7.length c0_7), (.slice A0_8 l0_8.length c0_8), (.slice A0_9 l0_9.length c0_9)] 30 (0, 0))) ∧ Aside0 (wc.heap[gb174]? = some (.cells #[.int .i64 a1_0, .int .i64 a1_1, .int .i64 a1_2, .int .i64 a1_3, .int .i64 a1_4, .int .i64 a1_5, (.slice A1_6 l1_6.length c1_6), (.slice A1_7 l1_7.length c1_7), (.slice A1_8 l1_8.length c1_8), (.slice A1_9 l1_9.length c1_9)] 34 (0, 0))) ∧ Aside0 (Below w.heap.size w wc))
 case first =>
  have H := HC3.out
  clear HC3
  by_cases c6 : (!(a0_0 == a1_0) || (!(a0_1 == a1_1) || (!(a0_2 == a1_2) || (!(a0_3 == a1_3) || (!(a0_4 == a1_4) || (!(a0_5 == a1_5))))))) = true
  ·rw [if_pos c6] at H
   have c6b0 : (!(a0_0 == a1_0) || (!(a0_1 == a1_1) || (!(a0_2 == a1_2) || (!(a0_3 == a1_3) || (!(a0_4 == a1_4) || (!(a0_5 == a1_5))))))) = true := c6
   clear c6
   (first | rw [c6b0] | (simp only [i64_w, i32_w]; rw [c6b0]) | skip)
   have H' := Aside0.mk H
   clear H
   have hnb7 := NB173_174.out
   have hnc7 := NB174_173.out
   have hcz8_0 : w5.cell? ⟨gb173, 0, none⟩ = some (.int .i64 a0_0) := (blk_cell BK173.out 0).trans rfl
   have hcz8_1 : w5.cell? ⟨gb173, 1, none⟩ = some (.int .i64 a0_1) := (blk_cell BK173.out 1).trans rfl
   have hcz8_2 : w5.cell? ⟨gb173, 2, none⟩ = some (.int .i64 a0_2) := (blk_cell BK173.out 2).trans rfl
   have hcz8_3 : w5.cell? ⟨gb173, 3, none⟩ = some (.int .i64 a0_3) := (blk_cell BK173.out 3).trans rfl
   have hcz8_4 : w5.cell? ⟨gb173, 4, none⟩ = some (.int .i64 a0_4) := (blk_cell BK173.out 4).trans rfl
   have hcz8_5 : w5.cell? ⟨gb173, 5, none⟩ = some (.int .i64 a0_5) := (blk_cell BK173.out 5).trans rfl
   have hcz8_6 : w5.cell? ⟨gb173, 6, none⟩ = some (.slice A0_6 l0_6.length c0_6) := (blk_cell BK173.out 6).trans rfl
   have hcz8_7 : w5.cell? ⟨gb173, 7, none⟩ = some (.slice A0_7 l0_7.length c0_7) := (blk_cell BK173.out 7).trans rfl
   have hcz8_8 : w5.cell? ⟨gb173, 8, none⟩ = some (.slice A0_8 l0_8.length c0_8) := (blk_cell BK173.out 8).trans rfl
   have hcz8_9 : w5.cell? ⟨gb173, 9, none⟩ = some (.slice A0_9 l0_9.length c0_9) := (blk_cell BK173.out 9).trans rfl
   have hfz8_0 := blk_frozen BK173.out 0
   have hfz8_1 := blk_frozen BK173.out 1
   have hfz8_2 := blk_frozen BK173.out 2
   have hfz8_3 := blk_frozen BK173.out 3
   have hfz8_4 := blk_frozen BK173.out 4
   have hfz8_5 := blk_frozen BK173.out 5
   have hfz8_6 := blk_frozen BK173.out 6
   have hfz8_7 := blk_frozen BK173.out 7
   have hfz8_8 := blk_frozen BK173.out 8
   have hfz8_9 := blk_frozen BK173.out 9
   have hcz9_0 : w5.cell? ⟨gb174, 0, none⟩ = some (.int .i64 a1_0) := (blk_cell BK174.out 0).trans rfl
   have hcz9_1 : w5.cell? ⟨gb174, 1, none⟩ = some (.int .i64 a1_1) := (blk_cell BK174.out 1).trans rfl
   have hcz9_2 : w5.cell? ⟨gb174, 2, none⟩ = some (.int .i64 a1_2) := (blk_cell BK174.out 2).trans rfl
   have hcz9_3 : w5.cell? ⟨gb174, 3, none⟩ = some (.int .i64 a1_3) := (blk_cell BK174.out 3).trans rfl
   have hcz9_4 : w5.cell? ⟨gb174, 4, none⟩ = some (.int .i64 a1_4) := (blk_cell BK174.out 4).trans rfl
   have hcz9_5 : w5.cell? ⟨gb174, 5, none⟩ = some (.int .i64 a1_5) := (blk_cell BK174.out 5).trans rfl
   have hcz9_6 : w5.cell? ⟨gb174, 6, none⟩ = some (.slice A1_6 l1_6.length c1_6) := (blk_cell BK174.out 6).trans rfl
   have hcz9_7 : w5.cell? ⟨gb174, 7, none⟩ = some (.slice A1_7 l1_7.length c1_7) := (blk_cell BK174.out 7).trans rfl
   have hcz9_8 : w5.cell? ⟨gb174, 8, none⟩ = some (.slice A1_8 l1_8.length c1_8) := (blk_cell BK174.out 8).trans rfl
   have hcz9_9 : w5.cell? ⟨gb174, 9, none⟩ = some (.slice A1_9 l1_9.length c1_9) := (blk_cell BK174.out 9).trans rfl
   have hfz9_0 := blk_frozen BK174.out 0
   have hfz9_1 := blk_frozen BK174.out 1
   have hfz9_2 := blk_frozen BK174.out 2
   have hfz9_3 := blk_frozen BK174.out 3
   have hfz9_4 := blk_frozen BK174.out 4
   have hfz9_5 := blk_frozen BK174.out 5
   have hfz9_6 := blk_frozen BK174.out 6
   have hfz9_7 := blk_frozen BK174.out 7
   have hfz9_8 := blk_frozen BK174.out 8
   have hfz9_9 := blk_frozen BK174.out 9
   go_wp2
   repeat (go_quiet (fail); try go_wp2)
   go_meet
   case rel => exact ⟨_, (true), (by first | rfl | (simp; done) | (simp [*]; done)), H', ⟨by first | omega | exact Nat.le_refl _⟩, ⟨by (with_reducible repeat (first | refine blk_drewN ?_ _ | refine blk_drew ?_ | refine blk_alloc ?_ _)); exact BK173.out⟩, ⟨by (with_reducible repeat (first | refine blk_drewN ?_ _ | refine blk_drew ?_ | refine blk_alloc ?_ _)); exact BK174.out⟩, ⟨by repeat (first | (with_reducible first | exact HB.out | apply below_alloc | apply pw_below_drewN | apply below_drew1 | refine below_set ?_ GE173.out | refine below_set ?_ GE174.out) | exact HB.out)⟩⟩
  ·rw [if_neg c6] at H
   have c6b0 : (!(a0_0 == a1_0) || (!(a0_1 == a1_1) || (!(a0_2 == a1_2) || (!(a0_3 == a1_3) || (!(a0_4 == a1_4) || (!(a0_5 == a1_5))))))) = false := by simpa using c6
   clear c6
   (first | rw [c6b0] | (simp only [i64_w, i32_w]; rw [c6b0]) | skip)
   replace H := Option.bind_eq_some_iff.mp H
   obtain ⟨t175, A100, H⟩ := H
   replace H : (if t175 = true then (if (strOfNums l0_7).toList = (strOfNums l1_7).toList then ((quarrelref01_Ints.f k l0_9 l1_9).bind fun t176 => (if t176 = true then (quarrellaw20_same.j0 k ((l0_8.length : Int) != (l1_8.length : Int)) a0_0 a0_1 a0_2 a0_3 a0_4 a0_5 l0_6 l0_7 l0_8 l0_9 a1_0 a1_1 a1_2 a1_3 a1_4 a1_5 l1_6 l1_7 l1_8 l1_9) else (quarrellaw20_same.j0 k true a0_0 a0_1 a0_2 a0_3 a0_4 a0_5 l0_6 l0_7 l0_8 l0_9 a1_0 a1_1 a1_2 a1_3 a1_4 a1_5 l1_6 l1_7 l1_8 l1_9))) else (quarrellaw20_same.j0 k true a0_0 a0_1 a0_2 a0_3 a0_4 a0_5 l0_6 l0_7 l0_8 l0_9 a1_0 a1_1 a1_2 a1_3 a1_4 a1_5 l1_6 l1_7 l1_8 l1_9)) else (quarrellaw20_same.j0 k true a0_0 a0_1 a0_2 a0_3 a0_4 a0_5 l0_6 l0_7 l0_8 l0_9 a1_0 a1_1 a1_2 a1_3 a1_4 a1_5 l1_6 l1_7 l1_8 l1_9)) = some r := H
   have A10 := Aside0.mk A100
   clear A100
   by_cases c11 : t175 = true
   ·subst c11
    have H1 : (if (strOfNums l0_7).toList = (strOfNums l1_7).toList then ((quarrelref01_Ints.f k l0_9 l1_9).bind fun t176 => (if t176 = true then (quarrellaw20_same.j0 k ((l0_8.length : Int) != (l1_8.length : Int)) a0_0 a0_1 a0_2 a0_3 a0_4 a0_5 l0_6 l0_7 l0_8 l0_9 a1_0 a1_1 a1_2 a1_3 a1_4 a1_5 l1_6 l1_7 l1_8 l1_9) else (quarrellaw20_same.j0 k true a0_0 a0_1 a0_2 a0_3 a0_4 a0_5 l0_6 l0_7 l0_8 l0_9 a1_0 a1_1 a1_2 a1_3 a1_4 a1_5 l1_6 l1_7 l1_8 l1_9))) else (quarrellaw20_same.j0 k true a0_0 a0_1 a0_2 a0_3 a0_4 a0_5 l0_6 l0_7 l0_8 l0_9 a1_0 a1_1 a1_2 a1_3 a1_4 a1_5 l1_6 l1_7 l1_8 l1_9)) = some r := by rw [if_pos rfl] at H; exact H
    clear H
    have H := H1
    clear H1
    by_cases c12 : (strOfNums l0_7).toList = (strOfNums l1_7).toList
    ·rw [if_pos c12] at H
     have c12b0 : ((strOfNums l0_7).toList == (strOfNums l1_7).toList) = true := beq_iff_eq.mpr c12
     have c12b1 : ((strOfNums l0_7).toList != (strOfNums l1_7).toList) = false := bne_eq_false_iff_eq.mpr c12
     clear c12
     replace H := Option.bind_eq_some_iff.mp H
     obtain ⟨t176, A130, H⟩ := H
     replace H : (if t176 = true then (quarrellaw20_same.j0 k ((l0_8.length : Int) != (l1_8.length : Int)) a0_0 a0_1 a0_2 a0_3 a0_4 a0_5 l0_6 l0_7 l0_8 l0_9 a1_0 a1_1 a1_2 a1_3 a1_4 a1_5 l1_6 l1_7 l1_8 l1_9) else (quarrellaw20_same.j0 k true a0_0 a0_1 a0_2 a0_3 a0_4 a0_5 l0_6 l0_7 l0_8 l0_9 a1_0 a1_1 a1_2 a1_3 a1_4 a1_5 l1_6 l1_7 l1_8 l1_9)) = some r := H
     have A13 := Aside0.mk A130
     clear A130
     by_cases c14 : t176 = true
     ·subst c14
      have H1 : (quarrellaw20_same.j0 k ((l0_8.length : Int) != (l1_8.length : Int)) a0_0 a0_1 a0_2 a0_3 a0_4 a0_5 l0_6 l0_7 l0_8 l0_9 a1_0 a1_1 a1_2 a1_3 a1_4 a1_5 l1_6 l1_7 l1_8 l1_9) = some r := by rw [if_pos rfl] at H; exact H
      clear H
      have H := H1
      clear H1
      have H' := Aside0.mk H
      clear H
      have hnb15 := NB173_174.out
      have hnc15 := NB174_173.out
      have hcz16_0 : w5.cell? ⟨gb173, 0, none⟩ = some (.int .i64 a0_0) := (blk_cell BK173.out 0).trans rfl
      have hcz16_1 : w5.cell? ⟨gb173, 1, none⟩ = some (.int .i64 a0_1) := (blk_cell BK173.out 1).trans rfl
      have hcz16_2 : w5.cell? ⟨gb173, 2, none⟩ = some (.int .i64 a0_2) := (blk_cell BK173.out 2).trans rfl
      have hcz16_3 : w5.cell? ⟨gb173, 3, none⟩ = some (.int .i64 a0_3) := (blk_cell BK173.out 3).trans rfl
      have hcz16_4 : w5.cell? ⟨gb173, 4, none⟩ = some (.int .i64 a0_4) := (blk_cell BK173.out 4).trans rfl
      have hcz16_5 : w5.cell? ⟨gb173, 5, none⟩ = some (.int .i64 a0_5) := (blk_cell BK173.out 5).trans rfl
      have hcz16_6 : w5.cell? ⟨gb173, 6, none⟩ = some (.slice A0_6 l0_6.length c0_6) := (blk_cell BK173.out 6).trans rfl
      have hcz16_7 : w5.cell? ⟨gb173, 7, none⟩ = some (.slice A0_7 l0_7.length c0_7) := (blk_cell BK173.out 7).trans rfl
      have hcz16_8 : w5.cell? ⟨gb173, 8, none⟩ = some (.slice A0_8 l0_8.length c0_8) := (blk_cell BK173.out 8).trans rfl
      have hcz16_9 : w5.cell? ⟨gb173, 9, none⟩ = some (.slice A0_9 l0_9.length c0_9) := (blk_cell BK173.out 9).trans rfl
      have hfz16_0 := blk_frozen BK173.out 0
      have hfz16_1 := blk_frozen BK173.out 1
      have hfz16_2 := blk_frozen BK173.out 2
      have hfz16_3 := blk_frozen BK173.out 3
      have hfz16_4 := blk_frozen BK173.out 4
      have hfz16_5 := blk_frozen BK173.out 5
      have hfz16_6 := blk_frozen BK173.out 6
      have hfz16_7 := blk_frozen BK173.out 7
      have hfz16_8 := blk_frozen BK173.out 8
      have hfz16_9 := blk_frozen BK173.out 9
      have hcz17_0 : w5.cell? ⟨gb174, 0, none⟩ = some (.int .i64 a1_0) := (blk_cell BK174.out 0).trans rfl
      have hcz17_1 : w5.cell? ⟨gb174, 1, none⟩ = some (.int .i64 a1_1) := (blk_cell BK174.out 1).trans rfl
      have hcz17_2 : w5.cell? ⟨gb174, 2, none⟩ = some (.int .i64 a1_2) := (blk_cell BK174.out 2).trans rfl
      have hcz17_3 : w5.cell? ⟨gb174, 3, none⟩ = some (.int .i64 a1_3) := (blk_cell BK174.out 3).trans rfl
      have hcz17_4 : w5.cell? ⟨gb174, 4, none⟩ = some (.int .i64 a1_4) := (blk_cell BK174.out 4).trans rfl
      have hcz17_5 : w5.cell? ⟨gb174, 5, none⟩ = some (.int .i64 a1_5) := (blk_cell BK174.out 5).trans rfl
      have hcz17_6 : w5.cell? ⟨gb174, 6, none⟩ = some (.slice A1_6 l1_6.length c1_6) := (blk_cell BK174.out 6).trans rfl
      have hcz17_7 : w5.cell? ⟨gb174, 7, none⟩ = some (.slice A1_7 l1_7.length c1_7) := (blk_cell BK174.out 7).trans rfl
      have hcz17_8 : w5.cell? ⟨gb174, 8, none⟩ = some (.slice A1_8 l1_8.length c1_8) := (blk_cell BK174.out 8).trans rfl
      have hcz17_9 : w5.cell? ⟨gb174, 9, none⟩ = some (.slice A1_9 l1_9.length c1_9) := (blk_cell BK174.out 9).trans rfl
      have hfz17_0 := blk_frozen BK174.out 0
      have hfz17_1 := blk_frozen BK174.out 1
      have hfz17_2 := blk_frozen BK174.out 2
      have hfz17_3 := blk_frozen BK174.out 3
      have hfz17_4 := blk_frozen BK174.out 4
      have hfz17_5 := blk_frozen BK174.out 5
      have hfz17_6 := blk_frozen BK174.out 6
      have hfz17_7 := blk_frozen BK174.out 7
      have hfz17_8 := blk_frozen BK174.out 8
      have hfz17_9 := blk_frozen BK174.out 9
      go_wp2_with (first | (go_at_call 19; (with_reducible refine (quarrelref01_Vals.calls k _ _ l0_6 _ _ l1_6 true _ ?side1 ?side2 ?side3 ?side4 A10.out).mono ?_); (case side1 => repeat (first | exact (Kd.C_below HR0_6.out HB.out) | (with_reducible refine Kd.C_alloc ?_ _) | (with_reducible refine Kd.C_drewN ?_ _) | (with_reducible refine Kd.C_drew ?_))); (case side2 => exact HC0_6.out); (case side3 => repeat (first | exact (Kd.C_below HR1_6.out HB.out) | (with_reducible refine Kd.C_alloc ?_ _) | (with_reducible refine Kd.C_drewN ?_ _) | (with_reducible refine Kd.C_drew ?_))); (case side4 => exact HC1_6.out); rintro e w' ⟨rfl, ⟨nd, rfl⟩⟩; (try first | exact ⟨rfl, _, World.drewN_drewN _ _ _⟩ | exact ⟨rfl, _, Eq.trans (World.drewN_drewN _ _ _) (congrArg (World.drewN _) (Nat.add_assoc _ _ _))⟩); have hcv18 := Kd.C_string (P := Try.prog) (A := A0_7) (c := c0_7) Try.underlying22 Try.underlying5 Try.underlying9 (Kd.C_drewN (Kd.C_below HR0_7.out HB.out) nd); have hcv19 := Kd.C_string (P := Try.prog) (A := A1_7) (c := c1_7) Try.underlying22 Try.underlying5 Try.underlying9 (Kd.C_drewN (Kd.C_below HR1_7.out HB.out) nd)) | (go_at_call 28; (with_reducible refine (quarrelref01_Ints.calls k _ _ l0_9 _ _ l1_9 true _ ?side1 ?side2 ?side3 ?side4 A13.out).mono ?_); (case side1 => repeat (first | exact (Kd.C_below HR0_9.out (by repeat (first | (with_reducible first | exact HB.out | apply below_alloc | apply pw_below_drewN | apply below_drew1 | refine below_set ?_ GE173.out | refine below_set ?_ GE174.out) | exact HB.out))) | (with_reducible refine Kd.C_alloc ?_ _) | (with_reducible refine Kd.C_drewN ?_ _) | (with_reducible refine Kd.C_drew ?_))); (case side2 => exact HC0_9.out); (case side3 => repeat (first | exact (Kd.C_below HR1_9.out (by repeat (first | (with_reducible first | exact HB.out | apply below_alloc | apply pw_below_drewN | apply below_drew1 | refine below_set ?_ GE173.out | refine below_set ?_ GE174.out) | exact HB.out))) | (with_reducible refine Kd.C_alloc ?_ _) | (with_reducible refine Kd.C_drewN ?_ _) | (with_reducible refine Kd.C_drew ?_))); (case side4 => exact HC1_9.out); rintro e w' ⟨rfl, ⟨nd, rfl⟩⟩; (try first | exact ⟨rfl, _, World.drewN_drewN _ _ _⟩ | exact ⟨rfl, _, Eq.trans (World.drewN_drewN _ _ _) (congrArg (World.drewN _) (Nat.add_assoc _ _ _))⟩)))
      go_meet
      case rel => exact ⟨_, (((l0_8.length : Int) != (l1_8.length : Int))), (by first | rfl | (simp; done) | (simp [*]; done)), H', ⟨by first | omega | exact Nat.le_refl _⟩, ⟨by (with_reducible repeat (first | refine blk_drewN ?_ _ | refine blk_drew ?_ | refine blk_alloc ?_ _)); exact BK173.out⟩, ⟨by (with_reducible repeat (first | refine blk_drewN ?_ _ | refine blk_drew ?_ | refine blk_alloc ?_ _)); exact BK174.out⟩, ⟨by repeat (first | (with_reducible first | exact HB.out | apply below_alloc | apply pw_below_drewN | apply below_drew1 | refine below_set ?_ GE173.out | refine below_set ?_ GE174.out) | exact HB.out)⟩⟩
     ·replace c14 := Bool.eq_false_iff.mpr c14
      subst c14
      have H1 : (quarrellaw20_same.j0 k true a0_0 a0_1 a0_2 a0_3 a0_4 a0_5 l0_6 l0_7 l0_8 l0_9 a1_0 a1_1 a1_2 a1_3 a1_4 a1_5 l1_6 l1_7 l1_8 l1_9) = some r := by rw [if_neg (show ¬ (false = true) by decide)] at H; exact H
      clear H
      have H := H1
      clear H1
      have H' := Aside0.mk H
      clear H
      have hnb20 := NB173_174.out
      have hnc20 := NB174_173.out
      have hcz21_0 : w5.cell? ⟨gb173, 0, none⟩ = some (.int .i64 a0_0) := (blk_cell BK173.out 0).trans rfl
      have hcz21_1 : w5.cell? ⟨gb173, 1, none⟩ = some (.int .i64 a0_1) := (blk_cell BK173.out 1).trans rfl
      have hcz21_2 : w5.cell? ⟨gb173, 2, none⟩ = some (.int .i64 a0_2) := (blk_cell BK173.out 2).trans rfl
      have hcz21_3 : w5.cell? ⟨gb173, 3, none⟩ = some (.int .i64 a0_3) := (blk_cell BK173.out 3).trans rfl
      have hcz21_4 : w5.cell? ⟨gb173, 4, none⟩ = some (.int .i64 a0_4) := (blk_cell BK173.out 4).trans rfl
      have hcz21_5 : w5.cell? ⟨gb173, 5, none⟩ = some (.int .i64 a0_5) := (blk_cell BK173.out 5).trans rfl
      have hcz21_6 : w5.cell? ⟨gb173, 6, none⟩ = some (.slice A0_6 l0_6.length c0_6) := (blk_cell BK173.out 6).trans rfl
      have hcz21_7 : w5.cell? ⟨gb173, 7, none⟩ = some (.slice A0_7 l0_7.length c0_7) := (blk_cell BK173.out 7).trans rfl
      have hcz21_8 : w5.cell? ⟨gb173, 8, none⟩ = some (.slice A0_8 l0_8.length c0_8) := (blk_cell BK173.out 8).trans rfl
      have hcz21_9 : w5.cell? ⟨gb173, 9, none⟩ = some (.slice A0_9 l0_9.length c0_9) := (blk_cell BK173.out 9).trans rfl
      have hfz21_0 := blk_frozen BK173.out 0
      have hfz21_1 := blk_frozen BK173.out 1
      have hfz21_2 := blk_frozen BK173.out 2
      have hfz21_3 := blk_frozen BK173.out 3
      have hfz21_4 := blk_frozen BK173.out 4
      have hfz21_5 := blk_frozen BK173.out 5
      have hfz21_6 := blk_frozen BK173.out 6
      have hfz21_7 := blk_frozen BK173.out 7
      have hfz21_8 := blk_frozen BK173.out 8
      have hfz21_9 := blk_frozen BK173.out 9
      have hcz22_0 : w5.cell? ⟨gb174, 0, none⟩ = some (.int .i64 a1_0) := (blk_cell BK174.out 0).trans rfl
      have hcz22_1 : w5.cell? ⟨gb174, 1, none⟩ = some (.int .i64 a1_1) := (blk_cell BK174.out 1).trans rfl
      have hcz22_2 : w5.cell? ⟨gb174, 2, none⟩ = some (.int .i64 a1_2) := (blk_cell BK174.out 2).trans rfl
      have hcz22_3 : w5.cell? ⟨gb174, 3, none⟩ = some (.int .i64 a1_3) := (blk_cell BK174.out 3).trans rfl
      have hcz22_4 : w5.cell? ⟨gb174, 4, none⟩ = some (.int .i64 a1_4) := (blk_cell BK174.out 4).trans rfl
      have hcz22_5 : w5.cell? ⟨gb174, 5, none⟩ = some (.int .i64 a1_5) := (blk_cell BK174.out 5).trans rfl
      have hcz22_6 : w5.cell? ⟨gb174, 6, none⟩ = some (.slice A1_6 l1_6.length c1_6) := (blk_cell BK174.out 6).trans rfl
      have hcz22_7 : w5.cell? ⟨gb174, 7, none⟩ = some (.slice A1_7 l1_7.length c1_7) := (blk_cell BK174.out 7).trans rfl
      have hcz22_8 : w5.cell? ⟨gb174, 8, none⟩ = some (.slice A1_8 l1_8.length c1_8) := (blk_cell BK174.out 8).trans rfl
      have hcz22_9 : w5.cell? ⟨gb174, 9, none⟩ = some (.slice A1_9 l1_9.length c1_9) := (blk_cell BK174.out 9).trans rfl
      have hfz22_0 := blk_frozen BK174.out 0
      have hfz22_1 := blk_frozen BK174.out 1
      have hfz22_2 := blk_frozen BK174.out 2
      have hfz22_3 := blk_frozen BK174.out 3
      have hfz22_4 := blk_frozen BK174.out 4
      have hfz22_5 := blk_frozen BK174.out 5
      have hfz22_6 := blk_frozen BK174.out 6
      have hfz22_7 := blk_frozen BK174.out 7
      have hfz22_8 := blk_frozen BK174.out 8
      have hfz22_9 := blk_frozen BK174.out 9
      go_wp2_with (first | (go_at_call 19; (with_reducible refine (quarrelref01_Vals.calls k _ _ l0_6 _ _ l1_6 true _ ?side1 ?side2 ?side3 ?side4 A10.out).mono ?_); (case side1 => repeat (first | exact (Kd.C_below HR0_6.out HB.out) | (with_reducible refine Kd.C_alloc ?_ _) | (with_reducible refine Kd.C_drewN ?_ _) | (with_reducible refine Kd.C_drew ?_))); (case side2 => exact HC0_6.out); (case side3 => repeat (first | exact (Kd.C_below HR1_6.out HB.out) | (with_reducible refine Kd.C_alloc ?_ _) | (with_reducible refine Kd.C_drewN ?_ _) | (with_reducible refine Kd.C_drew ?_))); (case side4 => exact HC1_6.out); rintro e w' ⟨rfl, ⟨nd, rfl⟩⟩; (try first | exact ⟨rfl, _, World.drewN_drewN _ _ _⟩ | exact ⟨rfl, _, Eq.trans (World.drewN_drewN _ _ _) (congrArg (World.drewN _) (Nat.add_assoc _ _ _))⟩); have hcv23 := Kd.C_string (P := Try.prog) (A := A0_7) (c := c0_7) Try.underlying22 Try.underlying5 Try.underlying9 (Kd.C_drewN (Kd.C_below HR0_7.out HB.out) nd); have hcv24 := Kd.C_string (P := Try.prog) (A := A1_7) (c := c1_7) Try.underlying22 Try.underlying5 Try.underlying9 (Kd.C_drewN (Kd.C_below HR1_7.out HB.out) nd)) | (go_at_call 28; (with_reducible refine (quarrelref01_Ints.calls k _ _ l0_9 _ _ l1_9 false _ ?side1 ?side2 ?side3 ?side4 A13.out).mono ?_); (case side1 => repeat (first | exact (Kd.C_below HR0_9.out (by repeat (first | (with_reducible first | exact HB.out | apply below_alloc | apply pw_below_drewN | apply below_drew1 | refine below_set ?_ GE173.out | refine below_set ?_ GE174.out) | exact HB.out))) | (with_reducible refine Kd.C_alloc ?_ _) | (with_reducible refine Kd.C_drewN ?_ _) | (with_reducible refine Kd.C_drew ?_))); (case side2 => exact HC0_9.out); (case side3 => repeat (first | exact (Kd.C_below HR1_9.out (by repeat (first | (with_reducible first | exact HB.out | apply below_alloc | apply pw_below_drewN | apply below_drew1 | refine below_set ?_ GE173.out | refine below_set ?_ GE174.out) | exact HB.out))) | (with_reducible refine Kd.C_alloc ?_ _) | (with_reducible refine Kd.C_drewN ?_ _) | (with_reducible refine Kd.C_drew ?_))); (case side4 => exact HC1_9.out); rintro e w' ⟨rfl, ⟨nd, rfl⟩⟩; (try first | exact ⟨rfl, _, World.drewN_drewN _ _ _⟩ | exact ⟨rfl, _, Eq.trans (World.drewN_drewN _ _ _) (congrArg (World.drewN _) (Nat.add_assoc _ _ _))⟩)))
      go_meet
      case rel => exact ⟨_, (true), (by first | rfl | (simp; done) | (simp [*]; done)), H', ⟨by first | omega | exact Nat.le_refl _⟩, ⟨by (with_reducible repeat (first | refine blk_drewN ?_ _ | refine blk_drew ?_ | refine blk_alloc ?_ _)); exact BK173.out⟩, ⟨by (with_reducible repeat (first | refine blk_drewN ?_ _ | refine blk_drew ?_ | refine blk_alloc ?_ _)); exact BK174.out⟩, ⟨by repeat (first | (with_reducible first | exact HB.out | apply below_alloc | apply pw_below_drewN | apply below_drew1 | refine below_set ?_ GE173.out | refine below_set ?_ GE174.out) | exact HB.out)⟩⟩
    ·rw [if_neg c12] at H
     have c12b0 : ((strOfNums l0_7).toList == (strOfNums l1_7).toList) = false := beq_eq_false_iff_ne.mpr c12
     have c12b1 : ((strOfNums l0_7).toList != (strOfNums l1_7).toList) = true := bne_iff_ne.mpr c12
     have H' := Aside0.mk H
     clear H
     have hnb25 := NB173_174.out
     have hnc25 := NB174_173.out
     have hcz26_0 : w5.cell? ⟨gb173, 0, none⟩ = some (.int .i64 a0_0) := (blk_cell BK173.out 0).trans rfl
     have hcz26_1 : w5.cell? ⟨gb173, 1, none⟩ = some (.int .i64 a0_1) := (blk_cell BK173.out 1).trans rfl
     have hcz26_2 : w5.cell? ⟨gb173, 2, none⟩ = some (.int .i64 a0_2) := (blk_cell BK173.out 2).trans rfl
     have hcz26_3 : w5.cell? ⟨gb173, 3, none⟩ = some (.int .i64 a0_3) := (blk_cell BK173.out 3).trans rfl
     have hcz26_4 : w5.cell? ⟨gb173, 4, none⟩ = some (.int .i64 a0_4) := (blk_cell BK173.out 4).trans rfl
     have hcz26_5 : w5.cell? ⟨gb173, 5, none⟩ = some (.int .i64 a0_5) := (blk_cell BK173.out 5).trans rfl
     have hcz26_6 : w5.cell? ⟨gb173, 6, none⟩ = some (.slice A0_6 l0_6.length c0_6) := (blk_cell BK173.out 6).trans rfl
     have hcz26_7 : w5.cell? ⟨gb173, 7, none⟩ = some (.slice A0_7 l0_7.length c0_7) := (blk_cell BK173.out 7).trans rfl
     have hcz26_8 : w5.cell? ⟨gb173, 8, none⟩ = some (.slice A0_8 l0_8.length c0_8) := (blk_cell BK173.out 8).trans rfl
     have hcz26_9 : w5.cell? ⟨gb173, 9, none⟩ = some (.slice A0_9 l0_9.length c0_9) := (blk_cell BK173.out 9).trans rfl
     have hfz26_0 := blk_frozen BK173.out 0
     have hfz26_1 := blk_frozen BK173.out 1
     have hfz26_2 := blk_frozen BK173.out 2
     have hfz26_3 := blk_frozen BK173.out 3
     have hfz26_4 := blk_frozen BK173.out 4
     have hfz26_5 := blk_frozen BK173.out 5
     have hfz26_6 := blk_frozen BK173.out 6
     have hfz26_7 := blk_frozen BK173.out 7
     have hfz26_8 := blk_frozen BK173.out 8
     have hfz26_9 := blk_frozen BK173.out 9
     have hcz27_0 : w5.cell? ⟨gb174, 0, none⟩ = some (.int .i64 a1_0) := (blk_cell BK174.out 0).trans rfl
     have hcz27_1 : w5.cell? ⟨gb174, 1, none⟩ = some (.int .i64 a1_1) := (blk_cell BK174.out 1).trans rfl
     have hcz27_2 : w5.cell? ⟨gb174, 2, none⟩ = some (.int .i64 a1_2) := (blk_cell BK174.out 2).trans rfl
     have hcz27_3 : w5.cell? ⟨gb174, 3, none⟩ = some (.int .i64 a1_3) := (blk_cell BK174.out 3).trans rfl
     have hcz27_4 : w5.cell? ⟨gb174, 4, none⟩ = some (.int .i64 a1_4) := (blk_cell BK174.out 4).trans rfl
     have hcz27_5 : w5.cell? ⟨gb174, 5, none⟩ = some (.int .i64 a1_5) := (blk_cell BK174.out 5).trans rfl
     have hcz27_6 : w5.cell? ⟨gb174, 6, none⟩ = some (.slice A1_6 l1_6.length c1_6) := (blk_cell BK174.out 6).trans rfl
     have hcz27_7 : w5.cell? ⟨gb174, 7, none⟩ = some (.slice A1_7 l1_7.length c1_7) := (blk_cell BK174.out 7).trans rfl
     have hcz27_8 : w5.cell? ⟨gb174, 8, none⟩ = some (.slice A1_8 l1_8.length c1_8) := (blk_cell BK174.out 8).trans rfl
     have hcz27_9 : w5.cell? ⟨gb174, 9, none⟩ = some (.slice A1_9 l1_9.length c1_9) := (blk_cell BK174.out 9).trans rfl
     have hfz27_0 := blk_frozen BK174.out 0
     have hfz27_1 := blk_frozen BK174.out 1
     have hfz27_2 := blk_frozen BK174.out 2
     have hfz27_3 := blk_frozen BK174.out 3
     have hfz27_4 := blk_frozen BK174.out 4
     have hfz27_5 := blk_frozen BK174.out 5
     have hfz27_6 := blk_frozen BK174.out 6
     have hfz27_7 := blk_frozen BK174.out 7
     have hfz27_8 := blk_frozen BK174.out 8
     have hfz27_9 := blk_frozen BK174.out 9
     go_wp2_with (first | (go_at_call 19; (with_reducible refine (quarrelref01_Vals.calls k _ _ l0_6 _ _ l1_6 true _ ?side1 ?side2 ?side3 ?side4 A10.out).mono ?_); (case side1 => repeat (first | exact (Kd.C_below HR0_6.out HB.out) | (with_reducible refine Kd.C_alloc ?_ _) | (with_reducible refine Kd.C_drewN ?_ _) | (with_reducible refine Kd.C_drew ?_))); (case side2 => exact HC0_6.out); (case side3 => repeat (first | exact (Kd.C_below HR1_6.out HB.out) | (with_reducible refine Kd.C_alloc ?_ _) | (with_reducible refine Kd.C_drewN ?_ _) | (with_reducible refine Kd.C_drew ?_))); (case side4 => exact HC1_6.out); rintro e w' ⟨rfl, ⟨nd, rfl⟩⟩; (try first | exact ⟨rfl, _, World.drewN_drewN _ _ _⟩ | exact ⟨rfl, _, Eq.trans (World.drewN_drewN _ _ _) (congrArg (World.drewN _) (Nat.add_assoc _ _ _))⟩); have hcv28 := Kd.C_string (P := Try.prog) (A := A0_7) (c := c0_7) Try.underlying22 Try.underlying5 Try.underlying9 (Kd.C_drewN (Kd.C_below HR0_7.out HB.out) nd); have hcv29 := Kd.C_string (P := Try.prog) (A := A1_7) (c := c1_7) Try.underlying22 Try.underlying5 Try.underlying9 (Kd.C_drewN (Kd.C_below HR1_7.out HB.out) nd)))
     repeat (go_quiet (first | (go_at_call 19; (with_reducible refine (quarrelref01_Vals.calls k _ _ l0_6 _ _ l1_6 true _ ?side1 ?side2 ?side3 ?side4 A10.out).mono ?_); (case side1 => repeat (first | exact (Kd.C_below HR0_6.out HB.out) | (with_reducible refine Kd.C_alloc ?_ _) | (with_reducible refine Kd.C_drewN ?_ _) | (with_reducible refine Kd.C_drew ?_))); (case side2 => exact HC0_6.out); (case side3 => repeat (first | exact (Kd.C_below HR1_6.out HB.out) | (with_reducible refine Kd.C_alloc ?_ _) | (with_reducible refine Kd.C_drewN ?_ _) | (with_reducible refine Kd.C_drew ?_))); (case side4 => exact HC1_6.out); rintro e w' ⟨rfl, ⟨nd, rfl⟩⟩; (try first | exact ⟨rfl, _, World.drewN_drewN _ _ _⟩ | exact ⟨rfl, _, Eq.trans (World.drewN_drewN _ _ _) (congrArg (World.drewN _) (Nat.add_assoc _ _ _))⟩); have hcv28 := Kd.C_string (P := Try.prog) (A := A0_7) (c := c0_7) Try.underlying22 Try.underlying5 Try.underlying9 (Kd.C_drewN (Kd.C_below HR0_7.out HB.out) nd); have hcv29 := Kd.C_string (P := Try.prog) (A := A1_7) (c := c1_7) Try.underlying22 Try.underlying5 Try.underlying9 (Kd.C_drewN (Kd.C_below HR1_7.out HB.out) nd))); try go_wp2_with (first | (go_at_call 19; (with_reducible refine (quarrelref01_Vals.calls k _ _ l0_6 _ _ l1_6 true _ ?side1 ?side2 ?side3 ?side4 A10.out).mono ?_); (case side1 => repeat (first | exact (Kd.C_below HR0_6.out HB.out) | (with_reducible refine Kd.C_alloc ?_ _) | (with_reducible refine Kd.C_drewN ?_ _) | (with_reducible refine Kd.C_drew ?_))); (case side2 => exact HC0_6.out); (case side3 => repeat (first | exact (Kd.C_below HR1_6.out HB.out) | (with_reducible refine Kd.C_alloc ?_ _) | (with_reducible refine Kd.C_drewN ?_ _) | (with_reducible refine Kd.C_drew ?_))); (case side4 => exact HC1_6.out); rintro e w' ⟨rfl, ⟨nd, rfl⟩⟩; (try first | exact ⟨rfl, _, World.drewN_drewN _ _ _⟩ | exact ⟨rfl, _, Eq.trans (World.drewN_drewN _ _ _) (congrArg (World.drewN _) (Nat.add_assoc _ _ _))⟩); have hcv28 := Kd.C_string (P := Try.prog) (A := A0_7) (c := c0_7) Try.underlying22 Try.underlying5 Try.underlying9 (Kd.C_drewN (Kd.C_below HR0_7.out HB.out) nd); have hcv29 := Kd.C_string (P := Try.prog) (A := A1_7) (c := c1_7) Try.underlying22 Try.underlying5 Try.underlying9 (Kd.C_drewN (Kd.C_below HR1_7.out HB.out) nd))))
     go_meet
     case rel => exact ⟨_, (true), (by first | rfl | (simp; done) | (simp [*]; done)), H', ⟨by first | omega | exact Nat.le_refl _⟩, ⟨by (with_reducible repeat (first | refine blk_drewN ?_ _ | refine blk_drew ?_ | refine blk_alloc ?_ _)); exact BK173.out⟩, ⟨by (with_reducible repeat (first | refine blk_drewN ?_ _ | refine blk_drew ?_ | refine blk_alloc ?_ _)); exact BK174.out⟩, ⟨by repeat (first | (with_reducible first | exact HB.out | apply below_alloc | apply pw_below_drewN | apply below_drew1 | refine below_set ?_ GE173.out | refine below_set ?_ GE174.out) | exact HB.out)⟩⟩
   ·replace c11 := Bool.eq_false_iff.mpr c11
    subst c11
    have H1 : (quarrellaw20_same.j0 k true a0_0 a0_1 a0_2 a0_3 a0_4 a0_5 l0_6 l0_7 l0_8 l0_9 a1_0 a1_1 a1_2 a1_3 a1_4 a1_5 l1_6 l1_7 l1_8 l1_9) = some r := by rw [if_neg (show ¬ (false = true) by decide)] at H; exact H
    clear H
    have H := H1
    clear H1
    have H' := Aside0.mk H
    clear H
    have hnb30 := NB173_174.out
    have hnc30 := NB174_173.out
    have hcz31_0 : w5.cell? ⟨gb173, 0, none⟩ = some (.int .i64 a0_0) := (blk_cell BK173.out 0).trans rfl
    have hcz31_1 : w5.cell? ⟨gb173, 1, none⟩ = some (.int .i64 a0_1) := (blk_cell BK173.out 1).trans rfl
    have hcz31_2 : w5.cell? ⟨gb173, 2, none⟩ = some (.int .i64 a0_2) := (blk_cell BK173.out 2).trans rfl
    have hcz31_3 : w5.cell? ⟨gb173, 3, none⟩ = some (.int .i64 a0_3) := (blk_cell BK173.out 3).trans rfl
    have hcz31_4 : w5.cell? ⟨gb173, 4, none⟩ = some (.int .i64 a0_4) := (blk_cell BK173.out 4).trans rfl
    have hcz31_5 : w5.cell? ⟨gb173, 5, none⟩ = some (.int .i64 a0_5) := (blk_cell BK173.out 5).trans rfl
    have hcz31_6 : w5.cell? ⟨gb173, 6, none⟩ = some (.slice A0_6 l0_6.length c0_6) := (blk_cell BK173.out 6).trans rfl
    have hcz31_7 : w5.cell? ⟨gb173, 7, none⟩ = some (.slice A0_7 l0_7.length c0_7) := (blk_cell BK173.out 7).trans rfl
    have hcz31_8 : w5.cell? ⟨gb173, 8, none⟩ = some (.slice A0_8 l0_8.length c0_8) := (blk_cell BK173.out 8).trans rfl
    have hcz31_9 : w5.cell? ⟨gb173, 9, none⟩ = some (.slice A0_9 l0_9.length c0_9) := (blk_cell BK173.out 9).trans rfl
    have hfz31_0 := blk_frozen BK173.out 0
    have hfz31_1 := blk_frozen BK173.out 1
    have hfz31_2 := blk_frozen BK173.out 2
    have hfz31_3 := blk_frozen BK173.out 3
    have hfz31_4 := blk_frozen BK173.out 4
    have hfz31_5 := blk_frozen BK173.out 5
    have hfz31_6 := blk_frozen BK173.out 6
    have hfz31_7 := blk_frozen BK173.out 7
    have hfz31_8 := blk_frozen BK173.out 8
    have hfz31_9 := blk_frozen BK173.out 9
    have hcz32_0 : w5.cell? ⟨gb174, 0, none⟩ = some (.int .i64 a1_0) := (blk_cell BK174.out 0).trans rfl
    have hcz32_1 : w5.cell? ⟨gb174, 1, none⟩ = some (.int .i64 a1_1) := (blk_cell BK174.out 1).trans rfl
    have hcz32_2 : w5.cell? ⟨gb174, 2, none⟩ = some (.int .i64 a1_2) := (blk_cell BK174.out 2).trans rfl
    have hcz32_3 : w5.cell? ⟨gb174, 3, none⟩ = some (.int .i64 a1_3) := (blk_cell BK174.out 3).trans rfl
    have hcz32_4 : w5.cell? ⟨gb174, 4, none⟩ = some (.int .i64 a1_4) := (blk_cell BK174.out 4).trans rfl
    have hcz32_5 : w5.cell? ⟨gb174, 5, none⟩ = some (.int .i64 a1_5) := (blk_cell BK174.out 5).trans rfl
    have hcz32_6 : w5.cell? ⟨gb174, 6, none⟩ = some (.slice A1_6 l1_6.length c1_6) := (blk_cell BK174.out 6).trans rfl
    have hcz32_7 : w5.cell? ⟨gb174, 7, none⟩ = some (.slice A1_7 l1_7.length c1_7) := (blk_cell BK174.out 7).trans rfl
    have hcz32_8 : w5.cell? ⟨gb174, 8, none⟩ = some (.slice A1_8 l1_8.length c1_8) := (blk_cell BK174.out 8).trans rfl
    have hcz32_9 : w5.cell? ⟨gb174, 9, none⟩ = some (.slice A1_9 l1_9.length c1_9) := (blk_cell BK174.out 9).trans rfl
    have hfz32_0 := blk_frozen BK174.out 0
    have hfz32_1 := blk_frozen BK174.out 1
    have hfz32_2 := blk_frozen BK174.out 2
    have hfz32_3 := blk_frozen BK174.out 3
    have hfz32_4 := blk_frozen BK174.out 4
    have hfz32_5 := blk_frozen BK174.out 5
    have hfz32_6 := blk_frozen BK174.out 6
    have hfz32_7 := blk_frozen BK174.out 7
    have hfz32_8 := blk_frozen BK174.out 8
    have hfz32_9 := blk_frozen BK174.out 9
    go_wp2_with (first | (go_at_call 19; (with_reducible refine (quarrelref01_Vals.calls k _ _ l0_6 _ _ l1_6 false _ ?side1 ?side2 ?side3 ?side4 A10.out).mono ?_); (case side1 => repeat (first | exact (Kd.C_below HR0_6.out HB.out) | (with_reducible refine Kd.C_alloc ?_ _) | (with_reducible refine Kd.C_drewN ?_ _) | (with_reducible refine Kd.C_drew ?_))); (case side2 => exact HC0_6.out); (case side3 => repeat (first | exact (Kd.C_below HR1_6.out HB.out) | (with_reducible refine Kd.C_alloc ?_ _) | (with_reducible refine Kd.C_drewN ?_ _) | (with_reducible refine Kd.C_drew ?_))); (case side4 => exact HC1_6.out); rintro e w' ⟨rfl, ⟨nd, rfl⟩⟩; (try first | exact ⟨rfl, _, World.drewN_drewN _ _ _⟩ | exact ⟨rfl, _, Eq.trans (World.drewN_drewN _ _ _) (congrArg (World.drewN _) (Nat.add_assoc _ _ _))⟩)))
    repeat (go_quiet (first | (go_at_call 19; (with_reducible refine (quarrelref01_Vals.calls k _ _ l0_6 _ _ l1_6 false _ ?side1 ?side2 ?side3 ?side4 A10.out).mono ?_); (case side1 => repeat (first | exact (Kd.C_below HR0_6.out HB.out) | (with_reducible refine Kd.C_alloc ?_ _) | (with_reducible refine Kd.C_drewN ?_ _) | (with_reducible refine Kd.C_drew ?_))); (case side2 => exact HC0_6.out); (case side3 => repeat (first | exact (Kd.C_below HR1_6.out HB.out) | (with_reducible refine Kd.C_alloc ?_ _) | (with_reducible refine Kd.C_drewN ?_ _) | (with_reducible refine Kd.C_drew ?_))); (case side4 => exact HC1_6.out); rintro e w' ⟨rfl, ⟨nd, rfl⟩⟩; (try first | exact ⟨rfl, _, World.drewN_drewN _ _ _⟩ | exact ⟨rfl, _, Eq.trans (World.drewN_drewN _ _ _) (congrArg (World.drewN _) (Nat.add_assoc _ _ _))⟩))); try go_wp2_with (first | (go_at_call 19; (with_reducible refine (quarrelref01_Vals.calls k _ _ l0_6 _ _ l1_6 false _ ?side1 ?side2 ?side3 ?side4 A10.out).mono ?_); (case side1 => repeat (first | exact (Kd.C_below HR0_6.out HB.out) | (with_reducible refine Kd.C_alloc ?_ _) | (with_reducible refine Kd.C_drewN ?_ _) | (with_reducible refine Kd.C_drew ?_))); (case side2 => exact HC0_6.out); (case side3 => repeat (first | exact (Kd.C_below HR1_6.out HB.out) | (with_reducible refine Kd.C_alloc ?_ _) | (with_reducible refine Kd.C_drewN ?_ _) | (with_reducible refine Kd.C_drew ?_))); (case side4 => exact HC1_6.out); rintro e w' ⟨rfl, ⟨nd, rfl⟩⟩; (try first | exact ⟨rfl, _, World.drewN_drewN _ _ _⟩ | exact ⟨rfl, _, Eq.trans (World.drewN_drewN _ _ _) (congrArg (World.drewN _) (Nat.add_assoc _ _ _))⟩))))
    go_meet
    case rel => exact ⟨_, (true), (by first | rfl | (simp; done) | (simp [*]; done)), H', ⟨by first | omega | exact Nat.le_refl _⟩, ⟨by (with_reducible repeat (first | refine blk_drewN ?_ _ | refine blk_drew ?_ | refine blk_alloc ?_ _)); exact BK173.out⟩, ⟨by (with_reducible repeat (first | refine blk_drewN ?_ _ | refine blk_drew ?_ | refine blk_alloc ?_ _)); exact BK174.out⟩, ⟨by repeat (first | (with_reducible first | exact HB.out | apply below_alloc | apply pw_below_drewN | apply below_drew1 | refine below_set ?_ GE173.out | refine below_set ?_ GE174.out) | exact HB.out)⟩⟩
 case rest =>
  clear HC3
  try clear c1
  try clear hcv1
  try clear c2
  try clear p2
  try clear hcv2
  try clear c3
  try clear c6
  try clear c6b0
  try clear c7
  try clear c11
  try clear c12
  try clear c12b0
  try clear c12b1
  try clear c14
  try clear c15
  try clear hcv18
  try clear hcv19
  try clear c20
  try clear hcv23
  try clear hcv24
  try clear c25
  try clear hcv28
  try clear hcv29
  try clear c30
  try clear hcz16_0
  try clear hcz16_1
  try clear hcz16_2
  try clear hcz16_3
  try clear hcz16_4
  try clear hcz16_5
  try clear hcz16_6
  try clear hcz16_7
  try clear hcz16_8
  try clear hcz16_9
  try clear hcz17_0
  try clear hcz17_1
  try clear hcz17_2
  try clear hcz17_3
  try clear hcz17_4
  try clear hcz17_5
  try clear hcz17_6
  try clear hcz17_7
  try clear hcz17_8
  try clear hcz17_9
  try clear hcz21_0
  try clear hcz21_1
  try clear hcz21_2
  try clear hcz21_3
  try clear hcz21_4
  try clear hcz21_5
  try clear hcz21_6
  try clear hcz21_7
  try clear hcz21_8
  try clear hcz21_9
  try clear hcz22_0
  try clear hcz22_1
  try clear hcz22_2
  try clear hcz22_3
  try clear hcz22_4
  try clear hcz22_5
  try clear hcz22_6
  try clear hcz22_7
  try clear hcz22_8
  try clear hcz22_9
  try clear hcz26_0
  try clear hcz26_1
  try clear hcz26_2
  try clear hcz26_3
  try clear hcz26_4
  try clear hcz26_5
  try clear hcz26_6
  try clear hcz26_7
  try clear hcz26_8
  try clear hcz26_9
  try clear hcz27_0
  try clear hcz27_1
  try clear hcz27_2
  try clear hcz27_3
  try clear hcz27_4
  try clear hcz27_5
  try clear hcz27_6
  try clear hcz27_7
  try clear hcz27_8
  try clear hcz27_9
  try clear hcz31_0
  try clear hcz31_1
  try clear hcz31_2
  try clear hcz31_3
  try clear hcz31_4
  try clear hcz31_5
  try clear hcz31_6
  try clear hcz31_7
  try clear hcz31_8
  try clear hcz31_9
  try clear hcz32_0
  try clear hcz32_1
  try clear hcz32_2
  try clear hcz32_3
  try clear hcz32_4
  try clear hcz32_5
  try clear hcz32_6
  try clear hcz32_7
  try clear hcz32_8
  try clear hcz32_9
  try clear hcz8_0
  try clear hcz8_1
  try clear hcz8_2
  try clear hcz8_3
  try clear hcz8_4
  try clear hcz8_5
  try clear hcz8_6
  try clear hcz8_7
  try clear hcz8_8
  try clear hcz8_9
  try clear hcz9_0
  try clear hcz9_1
  try clear hcz9_2
  try clear hcz9_3
  try clear hcz9_4
  try clear hcz9_5
  try clear hcz9_6
  try clear hcz9_7
  try clear hcz9_8
  try clear hcz9_9
  try clear hfz16_0
  try clear hfz16_1
  try clear hfz16_2
  try clear hfz16_3
  try clear hfz16_4
  try clear hfz16_5
  try clear hfz16_6
  try clear hfz16_7
  try clear hfz16_8
  try clear hfz16_9
  try clear hfz17_0
  try clear hfz17_1
  try clear hfz17_2
  try clear hfz17_3
  try clear hfz17_4
  try clear hfz17_5
  try clear hfz17_6
  try clear hfz17_7
  try clear hfz17_8
  try clear hfz17_9
  try clear hfz21_0
  try clear hfz21_1
  try clear hfz21_2
  try clear hfz21_3
  try clear hfz21_4
  try clear hfz21_5
  try clear hfz21_6
  try clear hfz21_7
  try clear hfz21_8
  try clear hfz21_9
  try clear hfz22_0
  try clear hfz22_1
  try clear hfz22_2
  try clear hfz22_3
  try clear hfz22_4
  try clear hfz22_5
  try clear hfz22_6
  try clear hfz22_7
  try clear hfz22_8
  try clear hfz22_9
  try clear hfz26_0
  try clear hfz26_1
  try clear hfz26_2
  try clear hfz26_3
  try clear hfz26_4
  try clear hfz26_5
  try clear hfz26_6
  try clear hfz26_7
  try clear hfz26_8
  try clear hfz26_9
  try clear hfz27_0
  try clear hfz27_1
  try clear hfz27_2
  try clear hfz27_3
  try clear hfz27_4
  try clear hfz27_5
  try clear hfz27_6
  try clear hfz27_7
  try clear hfz27_8
  try clear hfz27_9
  try clear hfz31_0
  try clear hfz31_1
  try clear hfz31_2
  try clear hfz31_3
  try clear hfz31_4
  try clear hfz31_5
  try clear hfz31_6
  try clear hfz31_7
  try clear hfz31_8
  try clear hfz31_9
  try clear hfz32_0
  try clear hfz32_1
  try clear hfz32_2
  try clear hfz32_3
  try clear hfz32_4
  try clear hfz32_5
  try clear hfz32_6
  try clear hfz32_7
  try clear hfz32_8
  try clear hfz32_9
  try clear hfz8_0
  try clear hfz8_1
  try clear hfz8_2
  try clear hfz8_3
  try clear hfz8_4
  try clear hfz8_5
  try clear hfz8_6
  try clear hfz8_7
  try clear hfz8_8
  try clear hfz8_9
  try clear hfz9_0
  try clear hfz9_1
  try clear hfz9_2
  try clear hfz9_3
  try clear hfz9_4
  try clear hfz9_5
  try clear hfz9_6
  try clear hfz9_7
  try clear hfz9_8
  try clear hfz9_9
  obtain ⟨kq, x45_2, rfl, HA, HJ2, BK173, BK174, HB⟩ := hcut
  cases kq with
  | zero => exact absurd HA.out (by simp [quarrellaw20_same.j0])
  | succ kj2 =>
   have H := HA.out
   clear HA
   simp only [quarrellaw20_same.j0] at H
   by_cases c33 : x45_2 = true
   ·subst c33
    have H1 : (some false) = some r := by rw [if_pos rfl] at H; exact H
    clear H
    have H := H1
    clear H1
    obtain rfl := Option.some.inj H
    go_wp2
    repeat (go_quiet (fail); try go_wp2)
    go_ret
    exact ⟨by first | rfl | (simp [errW_none, errW_some] <;> rfl) | (simp [*, errW_none, errW_some] <;> rfl), by repeat (first | (with_reducible first | exact HB.out | apply below_alloc | apply pw_below_drewN | apply below_drew1 | refine below_set ?_ GE173.out | refine below_set ?_ GE174.out) | exact HB.out)⟩
   ·replace c33 := Bool.eq_false_iff.mpr c33
    subst c33
    have H1 : (quarrellaw20_same.l0 kj2 0 a0_0 a0_1 a0_2 a0_3 a0_4 a0_5 l0_6 l0_7 l0_8 l0_9 a1_0 a1_1 a1_2 a1_3 a1_4 a1_5 l1_6 l1_7 l1_8 l1_9) = some r := by rw [if_neg (show ¬ (false = true) by decide)] at H; exact H
    clear H
    have H := H1
    clear H1
    have H' := Aside0.mk H
    clear H
    go_wp2
    repeat (go_quiet (fail); try go_wp2)
    go_loopg [5] kj2 (fun kq v5 w' => ∃ (x5_2 : Int), v5 = .int .i64 x5_2 ∧ Aside0 (quarrellaw20_same.l0 kq x5_2 a0_0 a0_1 a0_2 a0_3 a0_4 a0_5 l0_6 l0_7 l0_8 l0_9 a1_0 a1_1 a1_2 a1_3 a1_4 a1_5 l1_6 l1_7 l1_8 l1_9 = some r) ∧ Aside0 (kq ≤ kj2) ∧ Aside0 (w'.heap[gb173]? = some (.cells #[.int .i64 a0_0, .int .i64 a0_1, .int .i64 a0_2, .int .i64 a0_3, .int .i64 a0_4, .int .i64 a0_5, (.slice A0_6 l0_6.length c0_6), (.slice A0_7 l0_7.length c0_7), (.slice A0_8 l0_8.length c0_8), (.slice A0_9 l0_9.length c0_9)] 30 (0, 0))) ∧ Aside0 (w'.heap[gb174]? = some (.cells #[.int .i64 a1_0, .int .i64 a1_1, .int .i64 a1_2, .int .i64 a1_3, .int .i64 a1_4, .int .i64 a1_5, (.slice A1_6 l1_6.length c1_6), (.slice A1_7 l1_7.length c1_7), (.slice A1_8 l1_8.length c1_8), (.slice A1_9 l1_9.length c1_9)] 34 (0, 0))) ∧ Aside0 (Below w.heap.size w w'))
    case atStart => exact ⟨(0), (by first | rfl | (simp; done) | (simp [*]; done)), H', ⟨Nat.le_refl _⟩, ⟨by (with_reducible repeat (first | refine blk_drewN ?_ _ | refine blk_drew ?_ | refine blk_alloc ?_ _)); exact BK173.out⟩, ⟨by (with_reducible repeat (first | refine blk_drewN ?_ _ | refine blk_drew ?_ | refine blk_alloc ?_ _)); exact BK174.out⟩, ⟨by repeat (first | (with_reducible first | exact HB.out | apply below_alloc | apply pw_below_drewN | apply below_drew1 | refine below_set ?_ GE173.out | refine below_set ?_ GE174.out) | exact HB.out)⟩⟩
    case round =>
     clear H'
     try clear c1
     try clear hcv1
     try clear c2
     try clear p2
     try clear hcv2
     try clear c3
     try clear c6
     try clear c6b0
     try clear c7
     try clear c11
     try clear c12
     try clear c12b0
     try clear c12b1
     try clear c14
     try clear c15
     try clear hcv18
     try clear hcv19
     try clear c20
     try clear hcv23
     try clear hcv24
     try clear c25
     try clear hcv28
     try clear hcv29
     try clear c30
     try clear c33
     try clear hcz16_0
     try clear hcz16_1
     try clear hcz16_2
     try clear hcz16_3
     try clear hcz16_4
     try clear hcz16_5
     try clear hcz16_6
     try clear hcz16_7
     try clear hcz16_8
     try clear hcz16_9
     try clear hcz17_0
     try clear hcz17_1
     try clear hcz17_2
     try clear hcz17_3
     try clear hcz17_4
     try clear hcz17_5
     try clear hcz17_6
     try clear hcz17_7
     try clear hcz17_8
     try clear hcz17_9
     try clear hcz21_0
     try clear hcz21_1
     try clear hcz21_2
     try clear hcz21_3
     try clear hcz21_4
     try clear hcz21_5
     try clear hcz21_6
     try clear hcz21_7
     try clear hcz21_8
     try clear hcz21_9
     try clear hcz22_0
     try clear hcz22_1
     try clear hcz22_2
     try clear hcz22_3
     try clear hcz22_4
     try clear hcz22_5
     try clear hcz22_6
     try clear hcz22_7
     try clear hcz22_8
     try clear hcz22_9
     try clear hcz26_0
     try clear hcz26_1
     try clear hcz26_2
     try clear hcz26_3
     try clear hcz26_4
     try clear hcz26_5
     try clear hcz26_6
     try clear hcz26_7
     try clear hcz26_8
     try clear hcz26_9
     try clear hcz27_0
     try clear hcz27_1
     try clear hcz27_2
     try clear hcz27_3
     try clear hcz27_4
     try clear hcz27_5
     try clear hcz27_6
     try clear hcz27_7
     try clear hcz27_8
     try clear hcz27_9
     try clear hcz31_0
     try clear hcz31_1
     try clear hcz31_2
     try clear hcz31_3
     try clear hcz31_4
     try clear hcz31_5
     try clear hcz31_6
     try clear hcz31_7
     try clear hcz31_8
     try clear hcz31_9
     try clear hcz32_0
     try clear hcz32_1
     try clear hcz32_2
     try clear hcz32_3
     try clear hcz32_4
     try clear hcz32_5
     try clear hcz32_6
     try clear hcz32_7
     try clear hcz32_8
     try clear hcz32_9
     try clear hcz8_0
     try clear hcz8_1
     try clear hcz8_2
     try clear hcz8_3
     try clear hcz8_4
     try clear hcz8_5
     try clear hcz8_6
     try clear hcz8_7
     try clear hcz8_8
     try clear hcz8_9
     try clear hcz9_0
     try clear hcz9_1
     try clear hcz9_2
     try clear hcz9_3
     try clear hcz9_4
     try clear hcz9_5
     try clear hcz9_6
     try clear hcz9_7
     try clear hcz9_8
     try clear hcz9_9
     try clear hfz16_0
     try clear hfz16_1
     try clear hfz16_2
     try clear hfz16_3
     try clear hfz16_4
     try clear hfz16_5
     try clear hfz16_6
     try clear hfz16_7
     try clear hfz16_8
     try clear hfz16_9
     try clear hfz17_0
     try clear hfz17_1
     try clear hfz17_2
     try clear hfz17_3
     try clear hfz17_4
     try clear hfz17_5
     try clear hfz17_6
     try clear hfz17_7
     try clear hfz17_8
     try clear hfz17_9
     try clear hfz21_0
     try clear hfz21_1
     try clear hfz21_2
     try clear hfz21_3
     try clear hfz21_4
     try clear hfz21_5
     try clear hfz21_6
     try clear hfz21_7
     try clear hfz21_8
     try clear hfz21_9
     try clear hfz22_0
     try clear hfz22_1
     try clear hfz22_2
     try clear hfz22_3
     try clear hfz22_4
     try clear hfz22_5
     try clear hfz22_6
     try clear hfz22_7
     try clear hfz22_8
     try clear hfz22_9
     try clear hfz26_0
     try clear hfz26_1
     try clear hfz26_2
     try clear hfz26_3
     try clear hfz26_4
     try clear hfz26_5
     try clear hfz26_6
     try clear hfz26_7
     try clear hfz26_8
     try clear hfz26_9
     try clear hfz27_0
     try clear hfz27_1
     try clear hfz27_2
     try clear hfz27_3
     try clear hfz27_4
     try clear hfz27_5
     try clear hfz27_6
     try clear hfz27_7
     try clear hfz27_8
     try clear hfz27_9
     try clear hfz31_0
     try clear hfz31_1
     try clear hfz31_2
     try clear hfz31_3
     try clear hfz31_4
     try clear hfz31_5
     try clear hfz31_6
     try clear hfz31_7
     try clear hfz31_8
     try clear hfz31_9
     try clear hfz32_0
     try clear hfz32_1
     try clear hfz32_2
     try clear hfz32_3
     try clear hfz32_4
     try clear hfz32_5
     try clear hfz32_6
     try clear hfz32_7
     try clear hfz32_8
     try clear hfz32_9
     try clear hfz8_0
     try clear hfz8_1
     try clear hfz8_2
     try clear hfz8_3
     try clear hfz8_4
     try clear hfz8_5
     try clear hfz8_6
     try clear hfz8_7
     try clear hfz8_8
     try clear hfz8_9
     try clear hfz9_0
     try clear hfz9_1
     try clear hfz9_2
     try clear hfz9_3
     try clear hfz9_4
     try clear hfz9_5
     try clear hfz9_6
     try clear hfz9_7
     try clear hfz9_8
     try clear hfz9_9
     try clear p2
     obtain ⟨x5_2, rfl, HA, HK2, BK173, BK174, HB⟩ := hrel
     cases gk with
     | zero => exact absurd HA.out (by simp [quarrellaw20_same.l0])
     | succ k2 =>
      have H := HA.out
      clear HA
      simp only [quarrellaw20_same.l0] at H
      by_cases c34 : x5_2 < (l0_8.length : Int)
      ·rw [if_pos c34] at H
       have c34b0 : decide (x5_2 < (l0_8.length : Int)) = true := decide_eq_true c34
       clear c34
       by_cases c35 : 0 ≤ x5_2
       ·rw [if_pos c35] at H
        have c35b0 : decide (0 ≤ x5_2) = true := decide_eq_true c35
        clear c35
        by_cases c36 : x5_2 < (l1_8.length : Int)
        ·rw [if_pos c36] at H
         have c36b0 : decide (x5_2 < (l1_8.length : Int)) = true := decide_eq_true c36
         clear c36
         by_cases c37 : ((rd_L7 l0_8 x5_2).length : Int) = ((rd_L7 l1_8 x5_2).length : Int)
         ·rw [if_pos c37] at H
          have c37b0 : (((rd_L7 l0_8 x5_2).length : Int) == ((rd_L7 l1_8 x5_2).length : Int)) = true := beq_iff_eq.mpr c37
          have c37b1 : (((rd_L7 l0_8 x5_2).length : Int) != ((rd_L7 l1_8 x5_2).length : Int)) = false := bne_eq_false_iff_eq.mpr c37
          have c37b2 : ((rd_L7 l0_8 x5_2).length == (rd_L7 l1_8 x5_2).length) = true := by first | simpa using c37 | (simp at c37 ⊢; omega)
          clear c37
          have H' := Aside0.mk H
          clear H
          have hnb38 := NB173_174.out
          have hnc38 := NB174_173.out
          have hcz39_0 : wr.cell? ⟨gb173, 0, none⟩ = some (.int .i64 a0_0) := (blk_cell BK173.out 0).trans rfl
          have hcz39_1 : wr.cell? ⟨gb173, 1, none⟩ = some (.int .i64 a0_1) := (blk_cell BK173.out 1).trans rfl
          have hcz39_2 : wr.cell? ⟨gb173, 2, none⟩ = some (.int .i64 a0_2) := (blk_cell BK173.out 2).trans rfl
          have hcz39_3 : wr.cell? ⟨gb173, 3, none⟩ = some (.int .i64 a0_3) := (blk_cell BK173.out 3).trans rfl
          have hcz39_4 : wr.cell? ⟨gb173, 4, none⟩ = some (.int .i64 a0_4) := (blk_cell BK173.out 4).trans rfl
          have hcz39_5 : wr.cell? ⟨gb173, 5, none⟩ = some (.int .i64 a0_5) := (blk_cell BK173.out 5).trans rfl
          have hcz39_6 : wr.cell? ⟨gb173, 6, none⟩ = some (.slice A0_6 l0_6.length c0_6) := (blk_cell BK173.out 6).trans rfl
          have hcz39_7 : wr.cell? ⟨gb173, 7, none⟩ = some (.slice A0_7 l0_7.length c0_7) := (blk_cell BK173.out 7).trans rfl
          have hcz39_8 : wr.cell? ⟨gb173, 8, none⟩ = some (.slice A0_8 l0_8.length c0_8) := (blk_cell BK173.out 8).trans rfl
          have hcz39_9 : wr.cell? ⟨gb173, 9, none⟩ = some (.slice A0_9 l0_9.length c0_9) := (blk_cell BK173.out 9).trans rfl
          have hfz39_0 := blk_frozen BK173.out 0
          have hfz39_1 := blk_frozen BK173.out 1
          have hfz39_2 := blk_frozen BK173.out 2
          have hfz39_3 := blk_frozen BK173.out 3
          have hfz39_4 := blk_frozen BK173.out 4
          have hfz39_5 := blk_frozen BK173.out 5
          have hfz39_6 := blk_frozen BK173.out 6
          have hfz39_7 := blk_frozen BK173.out 7
          have hfz39_8 := blk_frozen BK173.out 8
          have hfz39_9 := blk_frozen BK173.out 9
          have p177 : 0 ≤ (x5_2 : Int) := of_decide_eq_true (by first | (with_reducible assumption) | assumption)
          have q177 : x5_2 < (l0_8.length : Int) := of_decide_eq_true (by first | (with_reducible assumption) | assumption)
          obtain ⟨ad177, A177_0, c177_0, e177, hx177_0, hl177_0, hi177_0⟩ := at_L7 HR0_8.out x5_2 p177 q177
          cases e177
          replace hx177_0 := (HB.out.cell (World.block_lt_of_cell? w _ hx177_0)).trans hx177_0
          have HR177_0 := Aside0.mk hi177_0
          have HC177_0 := Aside0.mk hl177_0
          clear hi177_0 hl177_0
          replace p177 := eq_true p177
          replace q177 := eq_true q177
          have hcz40_0 : wr.cell? ⟨gb174, 0, none⟩ = some (.int .i64 a1_0) := (blk_cell BK174.out 0).trans rfl
          have hcz40_1 : wr.cell? ⟨gb174, 1, none⟩ = some (.int .i64 a1_1) := (blk_cell BK174.out 1).trans rfl
          have hcz40_2 : wr.cell? ⟨gb174, 2, none⟩ = some (.int .i64 a1_2) := (blk_cell BK174.out 2).trans rfl
          have hcz40_3 : wr.cell? ⟨gb174, 3, none⟩ = some (.int .i64 a1_3) := (blk_cell BK174.out 3).trans rfl
          have hcz40_4 : wr.cell? ⟨gb174, 4, none⟩ = some (.int .i64 a1_4) := (blk_cell BK174.out 4).trans rfl
          have hcz40_5 : wr.cell? ⟨gb174, 5, none⟩ = some (.int .i64 a1_5) := (blk_cell BK174.out 5).trans rfl
          have hcz40_6 : wr.cell? ⟨gb174, 6, none⟩ = some (.slice A1_6 l1_6.length c1_6) := (blk_cell BK174.out 6).trans rfl
          have hcz40_7 : wr.cell? ⟨gb174, 7, none⟩ = some (.slice A1_7 l1_7.length c1_7) := (blk_cell BK174.out 7).trans rfl
          have hcz40_8 : wr.cell? ⟨gb174, 8, none⟩ = some (.slice A1_8 l1_8.length c1_8) := (blk_cell BK174.out 8).trans rfl
          have hcz40_9 : wr.cell? ⟨gb174, 9, none⟩ = some (.slice A1_9 l1_9.length c1_9) := (blk_cell BK174.out 9).trans rfl
          have hfz40_0 := blk_frozen BK174.out 0
          have hfz40_1 := blk_frozen BK174.out 1
          have hfz40_2 := blk_frozen BK174.out 2
          have hfz40_3 := blk_frozen BK174.out 3
          have hfz40_4 := blk_frozen BK174.out 4
          have hfz40_5 := blk_frozen BK174.out 5
          have hfz40_6 := blk_frozen BK174.out 6
          have hfz40_7 := blk_frozen BK174.out 7
          have hfz40_8 := blk_frozen BK174.out 8
          have hfz40_9 := blk_frozen BK174.out 9
          have p178 : 0 ≤ (x5_2 : Int) := of_decide_eq_true (by first | (with_reducible assumption) | assumption)
          have q178 : x5_2 < (l1_8.length : Int) := of_decide_eq_true (by first | (with_reducible assumption) | assumption)
          obtain ⟨ad178, A178_0, c178_0, e178, hx178_0, hl178_0, hi178_0⟩ := at_L7 HR1_8.out x5_2 p178 q178
          cases e178
          replace hx178_0 := (HB.out.cell (World.block_lt_of_cell? w _ hx178_0)).trans hx178_0
          have HR178_0 := Aside0.mk hi178_0
          have HC178_0 := Aside0.mk hl178_0
          clear hi178_0 hl178_0
          replace p178 := eq_true p178
          replace q178 := eq_true q178
          go_wp2
          repeat (go_quiet (fail); try go_wp2)
          go_loopg [6] k2 (fun kq v6 w' => ∃ (x6_3 : Int), v6 = .int .i64 x6_3 ∧ Aside0 (quarrellaw20_same.l1 kq x5_2 x6_3 a0_0 a0_1 a0_2 a0_3 a0_4 a0_5 l0_6 l0_7 l0_8 l0_9 a1_0 a1_1 a1_2 a1_3 a1_4 a1_5 l1_6 l1_7 l1_8 l1_9 = some r) ∧ Aside0 (kq ≤ k2) ∧ Aside0 (w'.heap[gb173]? = some (.cells #[.int .i64 a0_0, .int .i64 a0_1, .int .i64 a0_2, .int .i64 a0_3, .int .i64 a0_4, .int .i64 a0_5, (.slice A0_6 l0_6.length c0_6), (.slice A0_7 l0_7.length c0_7), (.slice (some ad177) l0_8.length c0_8), (.slice A0_9 l0_9.length c0_9)] 30 (0, 0))) ∧ Aside0 (w'.heap[gb174]? = some (.cells #[.int .i64 a1_0, .int .i64 a1_1, .int .i64 a1_2, .int .i64 a1_3, .int .i64 a1_4, .int .i64 a1_5, (.slice A1_6 l1_6.length c1_6), (.slice A1_7 l1_7.length c1_7), (.slice (some ad178) l1_8.length c1_8), (.slice A1_9 l1_9.length c1_9)] 34 (0, 0))) ∧ Aside0 (Below w.heap.size w w'))
          case atStart => exact ⟨(0), (by first | rfl | (simp; done) | (simp [*]; done)), H', ⟨Nat.le_refl _⟩, ⟨by (with_reducible repeat (first | refine blk_drewN ?_ _ | refine blk_drew ?_ | refine blk_alloc ?_ _)); exact BK173.out⟩, ⟨by (with_reducible repeat (first | refine blk_drewN ?_ _ | refine blk_drew ?_ | refine blk_alloc ?_ _)); exact BK174.out⟩, ⟨by repeat (first | (with_reducible first | exact HB.out | apply below_alloc | apply pw_below_drewN | apply below_drew1 | refine below_set ?_ GE173.out | refine below_set ?_ GE174.out) | exact HB.out)⟩⟩
          case round =>
           clear H'
           try clear c1
           try clear p1
           try clear q1
           try clear hx1
           try clear hcv1
           try clear c2
           try clear p2
           try clear hcv2
           try clear c3
           try clear c6
           try clear c6b0
           try clear c7
           try clear c11
           try clear c12
           try clear c12b0
           try clear c12b1
           try clear c14
           try clear c15
           try clear c17
           try clear p17
           try clear q17
           try clear hx17
           try clear hcv18
           try clear hcv19
           try clear c20
           try clear hcv23
           try clear hcv24
           try clear c25
           try clear hcv28
           try clear hcv29
           try clear c30
           try clear c33
           try clear c34
           try clear c34b0
           try clear c35
           try clear c35b0
           try clear c36
           try clear c36b0
           try clear c37
           try clear c37b0
           try clear c37b1
           try clear c37b2
           try clear c38
           try clear hcz16_0
           try clear hcz16_1
           try clear hcz16_2
           try clear hcz16_3
           try clear hcz16_4
           try clear hcz16_5
           try clear hcz16_6
           try clear hcz16_7
           try clear hcz16_8
           try clear hcz16_9
           try clear hcz17_0
           try clear hcz17_1
           try clear hcz17_2
           try clear hcz17_3
           try clear hcz17_4
           try clear hcz17_5
           try clear hcz17_6
           try clear hcz17_7
           try clear hcz17_8
           try clear hcz17_9
           try clear hcz21_0
           try clear hcz21_1
           try clear hcz21_2
           try clear hcz21_3
           try clear hcz21_4
           try clear hcz21_5
           try clear hcz21_6
           try clear hcz21_7
           try clear hcz21_8
           try clear hcz21_9
           try clear hcz22_0
           try clear hcz22_1
           try clear hcz22_2
           try clear hcz22_3
           try clear hcz22_4
           try clear hcz22_5
           try clear hcz22_6
           try clear hcz22_7
           try clear hcz22_8
           try clear hcz22_9
           try clear hcz26_0
           try clear hcz26_1
           try clear hcz26_2
           try clear hcz26_3
           try clear hcz26_4
           try clear hcz26_5
           try clear hcz26_6
           try clear hcz26_7
           try clear hcz26_8
           try clear hcz26_9
           try clear hcz27_0
           try clear hcz27_1
           try clear hcz27_2
           try clear hcz27_3
           try clear hcz27_4
           try clear hcz27_5
           try clear hcz27_6
           try clear hcz27_7
           try clear hcz27_8
           try clear hcz27_9
           try clear hcz31_0
           try clear hcz31_1
           try clear hcz31_2
           try clear hcz31_3
           try clear hcz31_4
           try clear hcz31_5
           try clear hcz31_6
           try clear hcz31_7
           try clear hcz31_8
           try clear hcz31_9
           try clear hcz32_0
           try clear hcz32_1
           try clear hcz32_2
           try clear hcz32_3
           try clear hcz32_4
           try clear hcz32_5
           try clear hcz32_6
           try clear hcz32_7
           try clear hcz32_8
           try clear hcz32_9
           try clear hcz39_0
           try clear hcz39_1
           try clear hcz39_2
           try clear hcz39_3
           try clear hcz39_4
           try clear hcz39_5
           try clear hcz39_6
           try clear hcz39_7
           try clear hcz39_8
           try clear hcz39_9
           try clear hcz40_0
           try clear hcz40_1
           try clear hcz40_2
           try clear hcz40_3
           try clear hcz40_4
           try clear hcz40_5
           try clear hcz40_6
           try clear hcz40_7
           try clear hcz40_8
           try clear hcz40_9
           try clear hcz8_0
           try clear hcz8_1
           try clear hcz8_2
           try clear hcz8_3
           try clear hcz8_4
           try clear hcz8_5
           try clear hcz8_6
           try clear hcz8_7
           try clear hcz8_8
           try clear hcz8_9
           try clear hcz9_0
           try clear hcz9_1
           try clear hcz9_2
           try clear hcz9_3
           try clear hcz9_4
           try clear hcz9_5
           try clear hcz9_6
           try clear hcz9_7
           try clear hcz9_8
           try clear hcz9_9
           try clear hfz16_0
           try clear hfz16_1
           try clear hfz16_2
           try clear hfz16_3
           try clear hfz16_4
           try clear hfz16_5
           try clear hfz16_6
           try clear hfz16_7
           try clear hfz16_8
           try clear hfz16_9
           try clear hfz17_0
           try clear hfz17_1
           try clear hfz17_2
           try clear hfz17_3
           try clear hfz17_4
           try clear hfz17_5
           try clear hfz17_6
           try clear hfz17_7
           try clear hfz17_8
           try clear hfz17_9
           try clear hfz21_0
           try clear hfz21_1
           try clear hfz21_2
           try clear hfz21_3
           try clear hfz21_4
           try clear hfz21_5
           try clear hfz21_6
           try clear hfz21_7
           try clear hfz21_8
           try clear hfz21_9
           try clear hfz22_0
           try clear hfz22_1
           try clear hfz22_2
           try clear hfz22_3
           try clear hfz22_4
           try clear hfz22_5
           try clear hfz22_6
           try clear hfz22_7
           try clear hfz22_8
           try clear hfz22_9
           try clear hfz26_0
           try clear hfz26_1
           try clear hfz26_2
           try clear hfz26_3
           try clear hfz26_4
           try clear hfz26_5
           try clear hfz26_6
           try clear hfz26_7
           try clear hfz26_8
           try clear hfz26_9
           try clear hfz27_0
           try clear hfz27_1
           try clear hfz27_2
           try clear hfz27_3
           try clear hfz27_4
           try clear hfz27_5
           try clear hfz27_6
           try clear hfz27_7
           try clear hfz27_8
           try clear hfz27_9
           try clear hfz31_0
           try clear hfz31_1
           try clear hfz31_2
           try clear hfz31_3
           try clear hfz31_4
           try clear hfz31_5
           try clear hfz31_6
           try clear hfz31_7
           try clear hfz31_8
           try clear hfz31_9
           try clear hfz32_0
           try clear hfz32_1
           try clear hfz32_2
           try clear hfz32_3
           try clear hfz32_4
           try clear hfz32_5
           try clear hfz32_6
           try clear hfz32_7
           try clear hfz32_8
           try clear hfz32_9
           try clear hfz39_0
           try clear hfz39_1
           try clear hfz39_2
           try clear hfz39_3
           try clear hfz39_4
           try clear hfz39_5
           try clear hfz39_6
           try clear hfz39_7
           try clear hfz39_8
           try clear hfz39_9
           try clear hfz40_0
           try clear hfz40_1
           try clear hfz40_2
           try clear hfz40_3
           try clear hfz40_4
           try clear hfz40_5
           try clear hfz40_6
           try clear hfz40_7
           try clear hfz40_8
           try clear hfz40_9
           try clear hfz8_0
           try clear hfz8_1
           try clear hfz8_2
           try clear hfz8_3
           try clear hfz8_4
           try clear hfz8_5
           try clear hfz8_6
           try clear hfz8_7
           try clear hfz8_8
           try clear hfz8_9
           try clear hfz9_0
           try clear hfz9_1
           try clear hfz9_2
           try clear hfz9_3
           try clear hfz9_4
           try clear hfz9_5
           try clear hfz9_6
           try clear hfz9_7
           try clear hfz9_8
           try clear hfz9_9
           try clear hx177_0
           try clear hx178_0
           try clear p177
           try clear p178
           try clear p2
           try clear q177
           try clear q178
           obtain ⟨x6_3, rfl, HA, HK3, BK173, BK174, HB⟩ := hrel
           cases gk with
           | zero => exact absurd HA.out (by simp [quarrellaw20_same.l1])
           | succ k3 =>
            have H := HA.out
            clear HA
            simp only [quarrellaw20_same.l1] at H
            by_cases c41 : 0 ≤ x5_2
            ·rw [if_pos c41] at H
             have c41b0 : decide (0 ≤ x5_2) = true := decide_eq_true c41
             clear c41
             by_cases c42 : x5_2 < (l0_8.length : Int)
             ·rw [if_pos c42] at H
              have c42b0 : decide (x5_2 < (l0_8.length : Int)) = true := decide_eq_true c42
              clear c42
              by_cases c43 : x6_3 < ((rd_L7 l0_8 x5_2).length : Int)
              ·rw [if_pos c43] at H
               have c43b0 : decide (x6_3 < ((rd_L7 l0_8 x5_2).length : Int)) = true := decide_eq_true c43
               clear c43
               by_cases c44 : 0 ≤ x6_3
               ·rw [if_pos c44] at H
                have c44b0 : decide (0 ≤ x6_3) = true := decide_eq_true c44
                clear c44
                by_cases c45 : x5_2 < (l1_8.length : Int)
                ·rw [if_pos c45] at H
                 have c45b0 : decide (x5_2 < (l1_8.length : Int)) = true := decide_eq_true c45
                 clear c45
                 by_cases c46 : x6_3 < ((rd_L7 l1_8 x5_2).length : Int)
                 ·rw [if_pos c46] at H
                  have c46b0 : decide (x6_3 < ((rd_L7 l1_8 x5_2).length : Int)) = true := decide_eq_true c46
                  clear c46
                  replace H := Option.bind_eq_some_iff.mp H
                  obtain ⟨t184, A470, H⟩ := H
                  replace H : (if t184 = true then (quarrellaw20_same.l1 k3 x5_2 (wrap64 (x6_3 + 1)) a0_0 a0_1 a0_2 a0_3 a0_4 a0_5 l0_6 l0_7 l0_8 l0_9 a1_0 a1_1 a1_2 a1_3 a1_4 a1_5 l1_6 l1_7 l1_8 l1_9) else (some false)) = some r := H
                  have A47 := Aside0.mk A470
                  clear A470
                  by_cases c48 : t184 = true
                  ·subst c48
                   have H1 : (quarrellaw20_same.l1 k3 x5_2 (wrap64 (x6_3 + 1)) a0_0 a0_1 a0_2 a0_3 a0_4 a0_5 l0_6 l0_7 l0_8 l0_9 a1_0 a1_1 a1_2 a1_3 a1_4 a1_5 l1_6 l1_7 l1_8 l1_9) = some r := by rw [if_pos rfl] at H; exact H
                   clear H
                   have H := H1
                   clear H1
                   have H' := Aside0.mk H
                   clear H
                   have hnb49 := NB173_174.out
                   have hnc49 := NB174_173.out
                   have hcz50_0 : wr.cell? ⟨gb173, 0, none⟩ = some (.int .i64 a0_0) := (blk_cell BK173.out 0).trans rfl
                   have hcz50_1 : wr.cell? ⟨gb173, 1, none⟩ = some (.int .i64 a0_1) := (blk_cell BK173.out 1).trans rfl
                   have hcz50_2 : wr.cell? ⟨gb173, 2, none⟩ = some (.int .i64 a0_2) := (blk_cell BK173.out 2).trans rfl
                   have hcz50_3 : wr.cell? ⟨gb173, 3, none⟩ = some (.int .i64 a0_3) := (blk_cell BK173.out 3).trans rfl
                   have hcz50_4 : wr.cell? ⟨gb173, 4, none⟩ = some (.int .i64 a0_4) := (blk_cell BK173.out 4).trans rfl
                   have hcz50_5 : wr.cell? ⟨gb173, 5, none⟩ = some (.int .i64 a0_5) := (blk_cell BK173.out 5).trans rfl
                   have hcz50_6 : wr.cell? ⟨gb173, 6, none⟩ = some (.slice A0_6 l0_6.length c0_6) := (blk_cell BK173.out 6).trans rfl
                   have hcz50_7 : wr.cell? ⟨gb173, 7, none⟩ = some (.slice A0_7 l0_7.length c0_7) := (blk_cell BK173.out 7).trans rfl
                   have hcz50_8 : wr.cell? ⟨gb173, 8, none⟩ = some (.slice (some ad177) l0_8.length c0_8) := (blk_cell BK173.out 8).trans rfl
                   have hcz50_9 : wr.cell? ⟨gb173, 9, none⟩ = some (.slice A0_9 l0_9.length c0_9) := (blk_cell BK173.out 9).trans rfl
                   have hfz50_0 := blk_frozen BK173.out 0
                   have hfz50_1 := blk_frozen BK173.out 1
                   have hfz50_2 := blk_frozen BK173.out 2
                   have hfz50_3 := blk_frozen BK173.out 3
                   have hfz50_4 := blk_frozen BK173.out 4
                   have hfz50_5 := blk_frozen BK173.out 5
                   have hfz50_6 := blk_frozen BK173.out 6
                   have hfz50_7 := blk_frozen BK173.out 7
                   have hfz50_8 := blk_frozen BK173.out 8
                   have hfz50_9 := blk_frozen BK173.out 9
                   have p179 : 0 ≤ (x5_2 : Int) := of_decide_eq_true (by first | (with_reducible assumption) | assumption)
                   have q179 : x5_2 < (l0_8.length : Int) := of_decide_eq_true (by first | (with_reducible assumption) | assumption)
                   obtain ⟨ad179, A179_0, c179_0, e179, hx179_0, hl179_0, hi179_0⟩ := at_L7 HR0_8.out x5_2 p179 q179
                   obtain rfl : ad177 = ad179 := (by injection e179)
                   replace hx179_0 := (HB.out.cell (World.block_lt_of_cell? w _ hx179_0)).trans hx179_0
                   have HR179_0 := Aside0.mk hi179_0
                   have HC179_0 := Aside0.mk hl179_0
                   clear hi179_0 hl179_0
                   replace p179 := eq_true p179
                   replace q179 := eq_true q179
                   have p180 : 0 ≤ (x5_2 : Int) := of_decide_eq_true (by first | (with_reducible assumption) | assumption)
                   have q180 : x5_2 < (l0_8.length : Int) := of_decide_eq_true (by first | (with_reducible assumption) | assumption)
                   obtain ⟨ad180, A180_0, c180_0, e180, hx180_0, hl180_0, hi180_0⟩ := at_L7 HR0_8.out x5_2 p180 q180
                   obtain rfl : ad177 = ad180 := (by injection e180)
                   replace hx180_0 := (HB.out.cell (World.block_lt_of_cell? w _ hx180_0)).trans hx180_0
                   have HR180_0 := Aside0.mk hi180_0
                   have HC180_0 := Aside0.mk hl180_0
                   clear hi180_0 hl180_0
                   replace p180 := eq_true p180
                   replace q180 := eq_true q180
                   have ea_ := Option.some.inj (hx179_0.symm.trans hx180_0)
                   injection ea_ with ea_ en_ ec_
                   subst ea_
                   subst ec_
                   clear en_
                   have p181 : 0 ≤ (x6_3 : Int) := of_decide_eq_true (by first | (with_reducible assumption) | assumption)
                   have q181 : x6_3 < ((rd_L7 l0_8 x5_2).length : Int) := of_decide_eq_true (by first | (with_reducible assumption) | assumption)
                   obtain ⟨ad181, A181_0, c181_0, e181, hx181_0, hl181_0, hi181_0⟩ := at_L6 HR180_0.out x6_3 p181 q181
                   cases e181
                   replace hx181_0 := (HB.out.cell (World.block_lt_of_cell? w _ hx181_0)).trans hx181_0
                   have HR181_0 := Aside0.mk hi181_0
                   have HC181_0 := Aside0.mk hl181_0
                   clear hi181_0 hl181_0
                   replace p181 := eq_true p181
                   replace q181 := eq_true q181
                   have hcz51_0 : wr.cell? ⟨gb174, 0, none⟩ = some (.int .i64 a1_0) := (blk_cell BK174.out 0).trans rfl
                   have hcz51_1 : wr.cell? ⟨gb174, 1, none⟩ = some (.int .i64 a1_1) := (blk_cell BK174.out 1).trans rfl
                   have hcz51_2 : wr.cell? ⟨gb174, 2, none⟩ = some (.int .i64 a1_2) := (blk_cell BK174.out 2).trans rfl
                   have hcz51_3 : wr.cell? ⟨gb174, 3, none⟩ = some (.int .i64 a1_3) := (blk_cell BK174.out 3).trans rfl
                   have hcz51_4 : wr.cell? ⟨gb174, 4, none⟩ = some (.int .i64 a1_4) := (blk_cell BK174.out 4).trans rfl
                   have hcz51_5 : wr.cell? ⟨gb174, 5, none⟩ = some (.int .i64 a1_5) := (blk_cell BK174.out 5).trans rfl
                   have hcz51_6 : wr.cell? ⟨gb174, 6, none⟩ = some (.slice A1_6 l1_6.length c1_6) := (blk_cell BK174.out 6).trans rfl
                   have hcz51_7 : wr.cell? ⟨gb174, 7, none⟩ = some (.slice A1_7 l1_7.length c1_7) := (blk_cell BK174.out 7).trans rfl
                   have hcz51_8 : wr.cell? ⟨gb174, 8, none⟩ = some (.slice (some ad178) l1_8.length c1_8) := (blk_cell BK174.out 8).trans rfl
                   have hcz51_9 : wr.cell? ⟨gb174, 9, none⟩ = some (.slice A1_9 l1_9.length c1_9) := (blk_cell BK174.out 9).trans rfl
                   have hfz51_0 := blk_frozen BK174.out 0
                   have hfz51_1 := blk_frozen BK174.out 1
                   have hfz51_2 := blk_frozen BK174.out 2
                   have hfz51_3 := blk_frozen BK174.out 3
                   have hfz51_4 := blk_frozen BK174.out 4
                   have hfz51_5 := blk_frozen BK174.out 5
                   have hfz51_6 := blk_frozen BK174.out 6
                   have hfz51_7 := blk_frozen BK174.out 7
                   have hfz51_8 := blk_frozen BK174.out 8
                   have hfz51_9 := blk_frozen BK174.out 9
                   have p182 : 0 ≤ (x5_2 : Int) := of_decide_eq_true (by first | (with_reducible assumption) | assumption)
                   have q182 : x5_2 < (l1_8.length : Int) := of_decide_eq_true (by first | (with_reducible assumption) | assumption)
                   obtain ⟨ad182, A182_0, c182_0, e182, hx182_0, hl182_0, hi182_0⟩ := at_L7 HR1_8.out x5_2 p182 q182
                   obtain rfl : ad178 = ad182 := (by injection e182)
                   replace hx182_0 := (HB.out.cell (World.block_lt_of_cell? w _ hx182_0)).trans hx182_0
                   have HR182_0 := Aside0.mk hi182_0
                   have HC182_0 := Aside0.mk hl182_0
                   clear hi182_0 hl182_0
                   replace p182 := eq_true p182
                   replace q182 := eq_true q182
                   have p183 : 0 ≤ (x6_3 : Int) := of_decide_eq_true (by first | (with_reducible assumption) | assumption)
                   have q183 : x6_3 < ((rd_L7 l1_8 x5_2).length : Int) := of_decide_eq_true (by first | (with_reducible assumption) | assumption)
                   obtain ⟨ad183, A183_0, c183_0, e183, hx183_0, hl183_0, hi183_0⟩ := at_L6 HR182_0.out x6_3 p183 q183
                   cases e183
                   replace hx183_0 := (HB.out.cell (World.block_lt_of_cell? w _ hx183_0)).trans hx183_0
                   have HR183_0 := Aside0.mk hi183_0
                   have HC183_0 := Aside0.mk hl183_0
                   clear hi183_0 hl183_0
                   replace p183 := eq_true p183
                   replace q183 := eq_true q183
                   go_wp2_with (first | (go_at_call 29; (with_reducible refine (quarrelref11_Same.calls k3 _ _ (rd_L6 (rd_L7 l0_8 x5_2) x6_3) _ _ (rd_L6 (rd_L7 l1_8 x5_2) x6_3) true _ ?side1 ?side2 ?side3 ?side4 A47.out).mono ?_); (case side1 => repeat (first | exact (Kd.C_below HR181_0.out HB.out) | (with_reducible refine Kd.C_alloc ?_ _) | (with_reducible refine Kd.C_drewN ?_ _) | (with_reducible refine Kd.C_drew ?_))); (case side2 => exact HC181_0.out); (case side3 => repeat (first | exact (Kd.C_below HR183_0.out HB.out) | (with_reducible refine Kd.C_alloc ?_ _) | (with_reducible refine Kd.C_drewN ?_ _) | (with_reducible refine Kd.C_drew ?_))); (case side4 => exact HC183_0.out); rintro e w' ⟨rfl, ⟨nd, rfl⟩⟩; (try first | exact ⟨rfl, _, World.drewN_drewN _ _ _⟩ | exact ⟨rfl, _, Eq.trans (World.drewN_drewN _ _ _) (congrArg (World.drewN _) (Nat.add_assoc _ _ _))⟩)))
                   repeat (go_quiet (first | (go_at_call 29; (with_reducible refine (quarrelref11_Same.calls k3 _ _ (rd_L6 (rd_L7 l0_8 x5_2) x6_3) _ _ (rd_L6 (rd_L7 l1_8 x5_2) x6_3) true _ ?side1 ?side2 ?side3 ?side4 A47.out).mono ?_); (case side1 => repeat (first | exact (Kd.C_below HR181_0.out HB.out) | (with_reducible refine Kd.C_alloc ?_ _) | (with_reducible refine Kd.C_drewN ?_ _) | (with_reducible refine Kd.C_drew ?_))); (case side2 => exact HC181_0.out); (case side3 => repeat (first | exact (Kd.C_below HR183_0.out HB.out) | (with_reducible refine Kd.C_alloc ?_ _) | (with_reducible refine Kd.C_drewN ?_ _) | (with_reducible refine Kd.C_drew ?_))); (case side4 => exact HC183_0.out); rintro e w' ⟨rfl, ⟨nd, rfl⟩⟩; (try first | exact ⟨rfl, _, World.drewN_drewN _ _ _⟩ | exact ⟨rfl, _, Eq.trans (World.drewN_drewN _ _ _) (congrArg (World.drewN _) (Nat.add_assoc _ _ _))⟩))); try go_wp2_with (first | (go_at_call 29; (with_reducible refine (quarrelref11_Same.calls k3 _ _ (rd_L6 (rd_L7 l0_8 x5_2) x6_3) _ _ (rd_L6 (rd_L7 l1_8 x5_2) x6_3) true _ ?side1 ?side2 ?side3 ?side4 A47.out).mono ?_); (case side1 => repeat (first | exact (Kd.C_below HR181_0.out HB.out) | (with_reducible refine Kd.C_alloc ?_ _) | (with_reducible refine Kd.C_drewN ?_ _) | (with_reducible refine Kd.C_drew ?_))); (case side2 => exact HC181_0.out); (case side3 => repeat (first | exact (Kd.C_below HR183_0.out HB.out) | (with_reducible refine Kd.C_alloc ?_ _) | (with_reducible refine Kd.C_drewN ?_ _) | (with_reducible refine Kd.C_drew ?_))); (case side4 => exact HC183_0.out); rintro e w' ⟨rfl, ⟨nd, rfl⟩⟩; (try first | exact ⟨rfl, _, World.drewN_drewN _ _ _⟩ | exact ⟨rfl, _, Eq.trans (World.drewN_drewN _ _ _) (congrArg (World.drewN _) (Nat.add_assoc _ _ _))⟩))))
                   go_roundg k3
                   case measure => have := HJ2.out; have := HK2.out; have := HK3.out; omega
                   case rel => exact ⟨(wrap64 (x6_3 + 1)), (by first | rfl | (simp; done) | (simp [*]; done)), H', ⟨by have := HJ2.out; have := HK2.out; have := HK3.out; omega⟩, ⟨by (with_reducible repeat (first | refine blk_drewN ?_ _ | refine blk_drew ?_ | refine blk_alloc ?_ _)); exact BK173.out⟩, ⟨by (with_reducible repeat (first | refine blk_drewN ?_ _ | refine blk_drew ?_ | refine blk_alloc ?_ _)); exact BK174.out⟩, ⟨by repeat (first | (with_reducible first | exact HB.out | apply below_alloc | apply pw_below_drewN | apply below_drew1 | refine below_set ?_ GE173.out | refine below_set ?_ GE174.out) | exact HB.out)⟩⟩
                  ·replace c48 := Bool.eq_false_iff.mpr c48
                   subst c48
                   have H1 : (some false) = some r := by rw [if_neg (show ¬ (false = true) by decide)] at H; exact H
                   clear H
                   have H := H1
                   clear H1
                   obtain rfl := Option.some.inj H
                   have hnb52 := NB173_174.out
                   have hnc52 := NB174_173.out
                   have hcz53_0 : wr.cell? ⟨gb173, 0, none⟩ = some (.int .i64 a0_0) := (blk_cell BK173.out 0).trans rfl
                   have hcz53_1 : wr.cell? ⟨gb173, 1, none⟩ = some (.int .i64 a0_1) := (blk_cell BK173.out 1).trans rfl
                   have hcz53_2 : wr.cell? ⟨gb173, 2, none⟩ = some (.int .i64 a0_2) := (blk_cell BK173.out 2).trans rfl
                   have hcz53_3 : wr.cell? ⟨gb173, 3, none⟩ = some (.int .i64 a0_3) := (blk_cell BK173.out 3).trans rfl
                   have hcz53_4 : wr.cell? ⟨gb173, 4, none⟩ = some (.int .i64 a0_4) := (blk_cell BK173.out 4).trans rfl
                   have hcz53_5 : wr.cell? ⟨gb173, 5, none⟩ = some (.int .i64 a0_5) := (blk_cell BK173.out 5).trans rfl
                   have hcz53_6 : wr.cell? ⟨gb173, 6, none⟩ = some (.slice A0_6 l0_6.length c0_6) := (blk_cell BK173.out 6).trans rfl
                   have hcz53_7 : wr.cell? ⟨gb173, 7, none⟩ = some (.slice A0_7 l0_7.length c0_7) := (blk_cell BK173.out 7).trans rfl
                   have hcz53_8 : wr.cell? ⟨gb173, 8, none⟩ = some (.slice (some ad177) l0_8.length c0_8) := (blk_cell BK173.out 8).trans rfl
                   have hcz53_9 : wr.cell? ⟨gb173, 9, none⟩ = some (.slice A0_9 l0_9.length c0_9) := (blk_cell BK173.out 9).trans rfl
                   have hfz53_0 := blk_frozen BK173.out 0
                   have hfz53_1 := blk_frozen BK173.out 1
                   have hfz53_2 := blk_frozen BK173.out 2
                   have hfz53_3 := blk_frozen BK173.out 3
                   have hfz53_4 := blk_frozen BK173.out 4
                   have hfz53_5 := blk_frozen BK173.out 5
                   have hfz53_6 := blk_frozen BK173.out 6
                   have hfz53_7 := blk_frozen BK173.out 7
                   have hfz53_8 := blk_frozen BK173.out 8
                   have hfz53_9 := blk_frozen BK173.out 9
                   have p179 : 0 ≤ (x5_2 : Int) := of_decide_eq_true (by first | (with_reducible assumption) | assumption)
                   have q179 : x5_2 < (l0_8.length : Int) := of_decide_eq_true (by first | (with_reducible assumption) | assumption)
                   obtain ⟨ad179, A179_0, c179_0, e179, hx179_0, hl179_0, hi179_0⟩ := at_L7 HR0_8.out x5_2 p179 q179
                   obtain rfl : ad177 = ad179 := (by injection e179)
                   replace hx179_0 := (HB.out.cell (World.block_lt_of_cell? w _ hx179_0)).trans hx179_0
                   have HR179_0 := Aside0.mk hi179_0
                   have HC179_0 := Aside0.mk hl179_0
                   clear hi179_0 hl179_0
                   replace p179 := eq_true p179
                   replace q179 := eq_true q179
                   have p180 : 0 ≤ (x5_2 : Int) := of_decide_eq_true (by first | (with_reducible assumption) | assumption)
                   have q180 : x5_2 < (l0_8.length : Int) := of_decide_eq_true (by first | (with_reducible assumption) | assumption)
                   obtain ⟨ad180, A180_0, c180_0, e180, hx180_0, hl180_0, hi180_0⟩ := at_L7 HR0_8.out x5_2 p180 q180
                   obtain rfl : ad177 = ad180 := (by injection e180)
                   replace hx180_0 := (HB.out.cell (World.block_lt_of_cell? w _ hx180_0)).trans hx180_0
                   have HR180_0 := Aside0.mk hi180_0
                   have HC180_0 := Aside0.mk hl180_0
                   clear hi180_0 hl180_0
                   replace p180 := eq_true p180
                   replace q180 := eq_true q180
                   have ea_ := Option.some.inj (hx179_0.symm.trans hx180_0)
                   injection ea_ with ea_ en_ ec_
                   subst ea_
                   subst ec_
                   clear en_
                   have p181 : 0 ≤ (x6_3 : Int) := of_decide_eq_true (by first | (with_reducible assumption) | assumption)
                   have q181 : x6_3 < ((rd_L7 l0_8 x5_2).length : Int) := of_decide_eq_true (by first | (with_reducible assumption) | assumption)
                   obtain ⟨ad181, A181_0, c181_0, e181, hx181_0, hl181_0, hi181_0⟩ := at_L6 HR180_0.out x6_3 p181 q181
                   cases e181
                   replace hx181_0 := (HB.out.cell (World.block_lt_of_cell? w _ hx181_0)).trans hx181_0
                   have HR181_0 := Aside0.mk hi181_0
                   have HC181_0 := Aside0.mk hl181_0
                   clear hi181_0 hl181_0
                   replace p181 := eq_true p181
                   replace q181 := eq_true q181
                   have hcz54_0 : wr.cell? ⟨gb174, 0, none⟩ = some (.int .i64 a1_0) := (blk_cell BK174.out 0).trans rfl
                   have hcz54_1 : wr.cell? ⟨gb174, 1, none⟩ = some (.int .i64 a1_1) := (blk_cell BK174.out 1).trans rfl
                   have hcz54_2 : wr.cell? ⟨gb174, 2, none⟩ = some (.int .i64 a1_2) := (blk_cell BK174.out 2).trans rfl
                   have hcz54_3 : wr.cell? ⟨gb174, 3, none⟩ = some (.int .i64 a1_3) := (blk_cell BK174.out 3).trans rfl
                   have hcz54_4 : wr.cell? ⟨gb174, 4, none⟩ = some (.int .i64 a1_4) := (blk_cell BK174.out 4).trans rfl
                   have hcz54_5 : wr.cell? ⟨gb174, 5, none⟩ = some (.int .i64 a1_5) := (blk_cell BK174.out 5).trans rfl
                   have hcz54_6 : wr.cell? ⟨gb174, 6, none⟩ = some (.slice A1_6 l1_6.length c1_6) := (blk_cell BK174.out 6).trans rfl
                   have hcz54_7 : wr.cell? ⟨gb174, 7, none⟩ = some (.slice A1_7 l1_7.length c1_7) := (blk_cell BK174.out 7).trans rfl
                   have hcz54_8 : wr.cell? ⟨gb174, 8, none⟩ = some (.slice (some ad178) l1_8.length c1_8) := (blk_cell BK174.out 8).trans rfl
                   have hcz54_9 : wr.cell? ⟨gb174, 9, none⟩ = some (.slice A1_9 l1_9.length c1_9) := (blk_cell BK174.out 9).trans rfl
                   have hfz54_0 := blk_frozen BK174.out 0
                   have hfz54_1 := blk_frozen BK174.out 1
                   have hfz54_2 := blk_frozen BK174.out 2
                   have hfz54_3 := blk_frozen BK174.out 3
                   have hfz54_4 := blk_frozen BK174.out 4
                   have hfz54_5 := blk_frozen BK174.out 5
                   have hfz54_6 := blk_frozen BK174.out 6
                   have hfz54_7 := blk_frozen BK174.out 7
                   have hfz54_8 := blk_frozen BK174.out 8
                   have hfz54_9 := blk_frozen BK174.out 9
                   have p182 : 0 ≤ (x5_2 : Int) := of_decide_eq_true (by first | (with_reducible assumption) | assumption)
                   have q182 : x5_2 < (l1_8.length : Int) := of_decide_eq_true (by first | (with_reducible assumption) | assumption)
                   obtain ⟨ad182, A182_0, c182_0, e182, hx182_0, hl182_0, hi182_0⟩ := at_L7 HR1_8.out x5_2 p182 q182
                   obtain rfl : ad178 = ad182 := (by injection e182)
                   replace hx182_0 := (HB.out.cell (World.block_lt_of_cell? w _ hx182_0)).trans hx182_0
                   have HR182_0 := Aside0.mk hi182_0
                   have HC182_0 := Aside0.mk hl182_0
                   clear hi182_0 hl182_0
                   replace p182 := eq_true p182
                   replace q182 := eq_true q182
                   have p183 : 0 ≤ (x6_3 : Int) := of_decide_eq_true (by first | (with_reducible assumption) | assumption)
                   have q183 : x6_3 < ((rd_L7 l1_8 x5_2).length : Int) := of_decide_eq_true (by first | (with_reducible assumption) | assumption)
                   obtain ⟨ad183, A183_0, c183_0, e183, hx183_0, hl183_0, hi183_0⟩ := at_L6 HR182_0.out x6_3 p183 q183
                   cases e183
                   replace hx183_0 := (HB.out.cell (World.block_lt_of_cell? w _ hx183_0)).trans hx183_0
                   have HR183_0 := Aside0.mk hi183_0
                   have HC183_0 := Aside0.mk hl183_0
                   clear hi183_0 hl183_0
                   replace p183 := eq_true p183
                   replace q183 := eq_true q183
                   go_wp2_with (first | (go_at_call 29; (with_reducible refine (quarrelref11_Same.calls k3 _ _ (rd_L6 (rd_L7 l0_8 x5_2) x6_3) _ _ (rd_L6 (rd_L7 l1_8 x5_2) x6_3) false _ ?side1 ?side2 ?side3 ?side4 A47.out).mono ?_); (case side1 => repeat (first | exact (Kd.C_below HR181_0.out HB.out) | (with_reducible refine Kd.C_alloc ?_ _) | (with_reducible refine Kd.C_drewN ?_ _) | (with_reducible refine Kd.C_drew ?_))); (case side2 => exact HC181_0.out); (case side3 => repeat (first | exact (Kd.C_below HR183_0.out HB.out) | (with_reducible refine Kd.C_alloc ?_ _) | (with_reducible refine Kd.C_drewN ?_ _) | (with_reducible refine Kd.C_drew ?_))); (case side4 => exact HC183_0.out); rintro e w' ⟨rfl, ⟨nd, rfl⟩⟩; (try first | exact ⟨rfl, _, World.drewN_drewN _ _ _⟩ | exact ⟨rfl, _, Eq.trans (World.drewN_drewN _ _ _) (congrArg (World.drewN _) (Nat.add_assoc _ _ _))⟩)))
                   repeat (go_quiet (first | (go_at_call 29; (with_reducible refine (quarrelref11_Same.calls k3 _ _ (rd_L6 (rd_L7 l0_8 x5_2) x6_3) _ _ (rd_L6 (rd_L7 l1_8 x5_2) x6_3) false _ ?side1 ?side2 ?side3 ?side4 A47.out).mono ?_); (case side1 => repeat (first | exact (Kd.C_below HR181_0.out HB.out) | (with_reducible refine Kd.C_alloc ?_ _) | (with_reducible refine Kd.C_drewN ?_ _) | (with_reducible refine Kd.C_drew ?_))); (case side2 => exact HC181_0.out); (case side3 => repeat (first | exact (Kd.C_below HR183_0.out HB.out) | (with_reducible refine Kd.C_alloc ?_ _) | (with_reducible refine Kd.C_drewN ?_ _) | (with_reducible refine Kd.C_drew ?_))); (case side4 => exact HC183_0.out); rintro e w' ⟨rfl, ⟨nd, rfl⟩⟩; (try first | exact ⟨rfl, _, World.drewN_drewN _ _ _⟩ | exact ⟨rfl, _, Eq.trans (World.drewN_drewN _ _ _) (congrArg (World.drewN _) (Nat.add_assoc _ _ _))⟩))); try go_wp2_with (first | (go_at_call 29; (with_reducible refine (quarrelref11_Same.calls k3 _ _ (rd_L6 (rd_L7 l0_8 x5_2) x6_3) _ _ (rd_L6 (rd_L7 l1_8 x5_2) x6_3) false _ ?side1 ?side2 ?side3 ?side4 A47.out).mono ?_); (case side1 => repeat (first | exact (Kd.C_below HR181_0.out HB.out) | (with_reducible refine Kd.C_alloc ?_ _) | (with_reducible refine Kd.C_drewN ?_ _) | (with_reducible refine Kd.C_drew ?_))); (case side2 => exact HC181_0.out); (case side3 => repeat (first | exact (Kd.C_below HR183_0.out HB.out) | (with_reducible refine Kd.C_alloc ?_ _) | (with_reducible refine Kd.C_drewN ?_ _) | (with_reducible refine Kd.C_drew ?_))); (case side4 => exact HC183_0.out); rintro e w' ⟨rfl, ⟨nd, rfl⟩⟩; (try first | exact ⟨rfl, _, World.drewN_drewN _ _ _⟩ | exact ⟨rfl, _, Eq.trans (World.drewN_drewN _ _ _) (congrArg (World.drewN _) (Nat.add_assoc _ _ _))⟩))))
                   go_ret
                   exact ⟨by first | rfl | (simp [errW_none, errW_some] <;> rfl) | (simp [*, errW_none, errW_some] <;> rfl), by repeat (first | (with_reducible first | exact HB.out | apply below_alloc | apply pw_below_drewN | apply below_drew1 | refine below_set ?_ GE173.out | refine below_set ?_ GE174.out) | exact HB.out)⟩
                 ·rw [if_neg c46] at H
                  exact absurd H (by simp)
                ·rw [if_neg c45] at H
                 exact absurd H (by simp)
               ·rw [if_neg c44] at H
                exact absurd H (by simp)
              ·rw [if_neg c43] at H
               have c43b0 : decide (x6_3 < ((rd_L7 l0_8 x5_2).length : Int)) = false := decide_eq_false c43
               clear c43
               have H' := Aside0.mk H
               clear H
               have hnb55 := NB173_174.out
               have hnc55 := NB174_173.out
               have hcz56_0 : wr.cell? ⟨gb173, 0, none⟩ = some (.int .i64 a0_0) := (blk_cell BK173.out 0).trans rfl
               have hcz56_1 : wr.cell? ⟨gb173, 1, none⟩ = some (.int .i64 a0_1) := (blk_cell BK173.out 1).trans rfl
               have hcz56_2 : wr.cell? ⟨gb173, 2, none⟩ = some (.int .i64 a0_2) := (blk_cell BK173.out 2).trans rfl
               have hcz56_3 : wr.cell? ⟨gb173, 3, none⟩ = some (.int .i64 a0_3) := (blk_cell BK173.out 3).trans rfl
               have hcz56_4 : wr.cell? ⟨gb173, 4, none⟩ = some (.int .i64 a0_4) := (blk_cell BK173.out 4).trans rfl
               have hcz56_5 : wr.cell? ⟨gb173, 5, none⟩ = some (.int .i64 a0_5) := (blk_cell BK173.out 5).trans rfl
               have hcz56_6 : wr.cell? ⟨gb173, 6, none⟩ = some (.slice A0_6 l0_6.length c0_6) := (blk_cell BK173.out 6).trans rfl
               have hcz56_7 : wr.cell? ⟨gb173, 7, none⟩ = some (.slice A0_7 l0_7.length c0_7) := (blk_cell BK173.out 7).trans rfl
               have hcz56_8 : wr.cell? ⟨gb173, 8, none⟩ = some (.slice (some ad177) l0_8.length c0_8) := (blk_cell BK173.out 8).trans rfl
               have hcz56_9 : wr.cell? ⟨gb173, 9, none⟩ = some (.slice A0_9 l0_9.length c0_9) := (blk_cell BK173.out 9).trans rfl
               have hfz56_0 := blk_frozen BK173.out 0
               have hfz56_1 := blk_frozen BK173.out 1
               have hfz56_2 := blk_frozen BK173.out 2
               have hfz56_3 := blk_frozen BK173.out 3
               have hfz56_4 := blk_frozen BK173.out 4
               have hfz56_5 := blk_frozen BK173.out 5
               have hfz56_6 := blk_frozen BK173.out 6
               have hfz56_7 := blk_frozen BK173.out 7
               have hfz56_8 := blk_frozen BK173.out 8
               have hfz56_9 := blk_frozen BK173.out 9
               have p179 : 0 ≤ (x5_2 : Int) := of_decide_eq_true (by first | (with_reducible assumption) | assumption)
               have q179 : x5_2 < (l0_8.length : Int) := of_decide_eq_true (by first | (with_reducible assumption) | assumption)
               obtain ⟨ad179, A179_0, c179_0, e179, hx179_0, hl179_0, hi179_0⟩ := at_L7 HR0_8.out x5_2 p179 q179
               obtain rfl : ad177 = ad179 := (by injection e179)
               replace hx179_0 := (HB.out.cell (World.block_lt_of_cell? w _ hx179_0)).trans hx179_0
               have HR179_0 := Aside0.mk hi179_0
               have HC179_0 := Aside0.mk hl179_0
               clear hi179_0 hl179_0
               replace p179 := eq_true p179
               replace q179 := eq_true q179
               go_wp2
               repeat (go_quiet (fail); try go_wp2)
               go_roundg k3
               case measure => have := HJ2.out; have := HK2.out; have := HK3.out; omega
               case rel => exact ⟨(wrap64 (x5_2 + 1)), (by first | rfl | (simp; done) | (simp [*]; done)), H', ⟨by have := HJ2.out; have := HK2.out; have := HK3.out; omega⟩, ⟨by (with_reducible repeat (first | refine blk_drewN ?_ _ | refine blk_drew ?_ | refine blk_alloc ?_ _)); exact BK173.out⟩, ⟨by (with_reducible repeat (first | refine blk_drewN ?_ _ | refine blk_drew ?_ | refine blk_alloc ?_ _)); exact BK174.out⟩, ⟨by repeat (first | (with_reducible first | exact HB.out | apply below_alloc | apply pw_below_drewN | apply below_drew1 | refine below_set ?_ GE173.out | refine below_set ?_ GE174.out) | exact HB.out)⟩⟩
             ·rw [if_neg c42] at H
              exact absurd H (by simp)
            ·rw [if_neg c41] at H
             exact absurd H (by simp)
         ·rw [if_neg c37] at H
          have c37b0 : (((rd_L7 l0_8 x5_2).length : Int) == ((rd_L7 l1_8 x5_2).length : Int)) = false := beq_eq_false_iff_ne.mpr c37
          have c37b1 : (((rd_L7 l0_8 x5_2).length : Int) != ((rd_L7 l1_8 x5_2).length : Int)) = true := bne_iff_ne.mpr c37
          have c37b2 : ((rd_L7 l0_8 x5_2).length == (rd_L7 l1_8 x5_2).length) = false := by first | simpa using c37 | (simp at c37 ⊢; omega)
          obtain rfl := Option.some.inj H
          have hnb57 := NB173_174.out
          have hnc57 := NB174_173.out
          have hcz58_0 : wr.cell? ⟨gb173, 0, none⟩ = some (.int .i64 a0_0) := (blk_cell BK173.out 0).trans rfl
          have hcz58_1 : wr.cell? ⟨gb173, 1, none⟩ = some (.int .i64 a0_1) := (blk_cell BK173.out 1).trans rfl
          have hcz58_2 : wr.cell? ⟨gb173, 2, none⟩ = some (.int .i64 a0_2) := (blk_cell BK173.out 2).trans rfl
          have hcz58_3 : wr.cell? ⟨gb173, 3, none⟩ = some (.int .i64 a0_3) := (blk_cell BK173.out 3).trans rfl
          have hcz58_4 : wr.cell? ⟨gb173, 4, none⟩ = some (.int .i64 a0_4) := (blk_cell BK173.out 4).trans rfl
          have hcz58_5 : wr.cell? ⟨gb173, 5, none⟩ = some (.int .i64 a0_5) := (blk_cell BK173.out 5).trans rfl
          have hcz58_6 : wr.cell? ⟨gb173, 6, none⟩ = some (.slice A0_6 l0_6.length c0_6) := (blk_cell BK173.out 6).trans rfl
          have hcz58_7 : wr.cell? ⟨gb173, 7, none⟩ = some (.slice A0_7 l0_7.length c0_7) := (blk_cell BK173.out 7).trans rfl
          have hcz58_8 : wr.cell? ⟨gb173, 8, none⟩ = some (.slice A0_8 l0_8.length c0_8) := (blk_cell BK173.out 8).trans rfl
          have hcz58_9 : wr.cell? ⟨gb173, 9, none⟩ = some (.slice A0_9 l0_9.length c0_9) := (blk_cell BK173.out 9).trans rfl
          have hfz58_0 := blk_frozen BK173.out 0
          have hfz58_1 := blk_frozen BK173.out 1
          have hfz58_2 := blk_frozen BK173.out 2
          have hfz58_3 := blk_frozen BK173.out 3
          have hfz58_4 := blk_frozen BK173.out 4
          have hfz58_5 := blk_frozen BK173.out 5
          have hfz58_6 := blk_frozen BK173.out 6
          have hfz58_7 := blk_frozen BK173.out 7
          have hfz58_8 := blk_frozen BK173.out 8
          have hfz58_9 := blk_frozen BK173.out 9
          have p177 : 0 ≤ (x5_2 : Int) := of_decide_eq_true (by first | (with_reducible assumption) | assumption)
          have q177 : x5_2 < (l0_8.length : Int) := of_decide_eq_true (by first | (with_reducible assumption) | assumption)
          obtain ⟨ad177, A177_0, c177_0, e177, hx177_0, hl177_0, hi177_0⟩ := at_L7 HR0_8.out x5_2 p177 q177
          cases e177
          replace hx177_0 := (HB.out.cell (World.block_lt_of_cell? w _ hx177_0)).trans hx177_0
          have HR177_0 := Aside0.mk hi177_0
          have HC177_0 := Aside0.mk hl177_0
          clear hi177_0 hl177_0
          replace p177 := eq_true p177
          replace q177 := eq_true q177
          have hcz59_0 : wr.cell? ⟨gb174, 0, none⟩ = some (.int .i64 a1_0) := (blk_cell BK174.out 0).trans rfl
          have hcz59_1 : wr.cell? ⟨gb174, 1, none⟩ = some (.int .i64 a1_1) := (blk_cell BK174.out 1).trans rfl
          have hcz59_2 : wr.cell? ⟨gb174, 2, none⟩ = some (.int .i64 a1_2) := (blk_cell BK174.out 2).trans rfl
          have hcz59_3 : wr.cell? ⟨gb174, 3, none⟩ = some (.int .i64 a1_3) := (blk_cell BK174.out 3).trans rfl
          have hcz59_4 : wr.cell? ⟨gb174, 4, none⟩ = some (.int .i64 a1_4) := (blk_cell BK174.out 4).trans rfl
          have hcz59_5 : wr.cell? ⟨gb174, 5, none⟩ = some (.int .i64 a1_5) := (blk_cell BK174.out 5).trans rfl
          have hcz59_6 : wr.cell? ⟨gb174, 6, none⟩ = some (.slice A1_6 l1_6.length c1_6) := (blk_cell BK174.out 6).trans rfl
          have hcz59_7 : wr.cell? ⟨gb174, 7, none⟩ = some (.slice A1_7 l1_7.length c1_7) := (blk_cell BK174.out 7).trans rfl
          have hcz59_8 : wr.cell? ⟨gb174, 8, none⟩ = some (.slice A1_8 l1_8.length c1_8) := (blk_cell BK174.out 8).trans rfl
          have hcz59_9 : wr.cell? ⟨gb174, 9, none⟩ = some (.slice A1_9 l1_9.length c1_9) := (blk_cell BK174.out 9).trans rfl
          have hfz59_0 := blk_frozen BK174.out 0
          have hfz59_1 := blk_frozen BK174.out 1
          have hfz59_2 := blk_frozen BK174.out 2
          have hfz59_3 := blk_frozen BK174.out 3
          have hfz59_4 := blk_frozen BK174.out 4
          have hfz59_5 := blk_frozen BK174.out 5
          have hfz59_6 := blk_frozen BK174.out 6
          have hfz59_7 := blk_frozen BK174.out 7
          have hfz59_8 := blk_frozen BK174.out 8
          have hfz59_9 := blk_frozen BK174.out 9
          have p178 : 0 ≤ (x5_2 : Int) := of_decide_eq_true (by first | (with_reducible assumption) | assumption)
          have q178 : x5_2 < (l1_8.length : Int) := of_decide_eq_true (by first | (with_reducible assumption) | assumption)
          obtain ⟨ad178, A178_0, c178_0, e178, hx178_0, hl178_0, hi178_0⟩ := at_L7 HR1_8.out x5_2 p178 q178
          cases e178
          replace hx178_0 := (HB.out.cell (World.block_lt_of_cell? w _ hx178_0)).trans hx178_0
          have HR178_0 := Aside0.mk hi178_0
          have HC178_0 := Aside0.mk hl178_0
          clear hi178_0 hl178_0
          replace p178 := eq_true p178
          replace q178 := eq_true q178
          go_wp2
          repeat (go_quiet (fail); try go_wp2)
          go_ret
          exact ⟨by first | rfl | (simp [errW_none, errW_some] <;> rfl) | (simp [*, errW_none, errW_some] <;> rfl), by repeat (first | (with_reducible first | exact HB.out | apply below_alloc | apply pw_below_drewN | apply below_drew1 | refine below_set ?_ GE173.out | refine below_set ?_ GE174.out) | exact HB.out)⟩
        ·rw [if_neg c36] at H
         exact absurd H (by simp)
       ·rw [if_neg c35] at H
        exact absurd H (by simp)
      ·rw [if_neg c34] at H
       have c34b0 : decide (x5_2 < (l0_8.length : Int)) = false := decide_eq_false c34
       clear c34
       obtain rfl := Option.some.inj H
       have hnb60 := NB173_174.out
       have hnc60 := NB174_173.out
       have hcz61_0 : wr.cell? ⟨gb173, 0, none⟩ = some (.int .i64 a0_0) := (blk_cell BK173.out 0).trans rfl
       have hcz61_1 : wr.cell? ⟨gb173, 1, none⟩ = some (.int .i64 a0_1) := (blk_cell BK173.out 1).trans rfl
       have hcz61_2 : wr.cell? ⟨gb173, 2, none⟩ = some (.int .i64 a0_2) := (blk_cell BK173.out 2).trans rfl
       have hcz61_3 : wr.cell? ⟨gb173, 3, none⟩ = some (.int .i64 a0_3) := (blk_cell BK173.out 3).trans rfl
       have hcz61_4 : wr.cell? ⟨gb173, 4, none⟩ = some (.int .i64 a0_4) := (blk_cell BK173.out 4).trans rfl
       have hcz61_5 : wr.cell? ⟨gb173, 5, none⟩ = some (.int .i64 a0_5) := (blk_cell BK173.out 5).trans rfl
       have hcz61_6 : wr.cell? ⟨gb173, 6, none⟩ = some (.slice A0_6 l0_6.length c0_6) := (blk_cell BK173.out 6).trans rfl
       have hcz61_7 : wr.cell? ⟨gb173, 7, none⟩ = some (.slice A0_7 l0_7.length c0_7) := (blk_cell BK173.out 7).trans rfl
       have hcz61_8 : wr.cell? ⟨gb173, 8, none⟩ = some (.slice A0_8 l0_8.length c0_8) := (blk_cell BK173.out 8).trans rfl
       have hcz61_9 : wr.cell? ⟨gb173, 9, none⟩ = some (.slice A0_9 l0_9.length c0_9) := (blk_cell BK173.out 9).trans rfl
       have hfz61_0 := blk_frozen BK173.out 0
       have hfz61_1 := blk_frozen BK173.out 1
       have hfz61_2 := blk_frozen BK173.out 2
       have hfz61_3 := blk_frozen BK173.out 3
       have hfz61_4 := blk_frozen BK173.out 4
       have hfz61_5 := blk_frozen BK173.out 5
       have hfz61_6 := blk_frozen BK173.out 6
       have hfz61_7 := blk_frozen BK173.out 7
       have hfz61_8 := blk_frozen BK173.out 8
       have hfz61_9 := blk_frozen BK173.out 9
       go_wp2
       repeat (go_quiet (fail); try go_wp2)
       go_ret
       exact ⟨by first | rfl | (simp [errW_none, errW_some] <;> rfl) | (simp [*, errW_none, errW_some] <;> rfl), by repeat (first | (with_reducible first | exact HB.out | apply below_alloc | apply pw_below_drewN | apply below_drew1 | refine below_set ?_ GE173.out | refine below_set ?_ GE174.out) | exact HB.out)⟩
end Go.Proofs.Ythfkgnkojhocbaa.S
end
section
namespace Go.Proofs.Ythfkgnkojhocbaa.S
open Go.RowKit Go.Proofs.YthfkgnkojhocbaaW.PrintWords Go.Proofs.YthfkgnkojhocbaaW.PrintLast Go.Proofs.YthfkgnkojhocbaaW.PrintMore
attribute [local go_sem] max2_int min2_int max_two min_two max_three min_three max_four min_four
set_option linter.unusedVariables false
set_option linter.unusedSimpArgs false
mutual
def quarrellaw16_Great.j0 : Nat → Bool → Int → Int → Int → Int → Int → Int → List Int → List Int → List (List (List (S80))) → Option (Int)
  | 0, _, _, _, _, _, _, _, _, _, _ => none
  | k + 1, x20, x236000, x236001, x236002, x236003, x236004, x236005, x236006, x236007, x236008 => if x20 = true then (some 1) else (quarrellaw16_Great.l0 k 0 x236000 x236001 x236002 x236003 x236004 x236005 x236006 x236007 x236008)
def quarrellaw16_Great.l0 : Nat → Int → Int → Int → Int → Int → Int → Int → List Int → List Int → List (List (List (S80))) → Option (Int)
  | 0, _, _, _, _, _, _, _, _, _, _ => none
  | k + 1, x3, x236000, x236001, x236002, x236003, x236004, x236005, x236006, x236007, x236008 => if x3 < (x236008.length : Int) then (if 0 ≤ x3 then (if ((rd_L7 x236008 x3).length : Int) > 20 then (some 1) else (quarrellaw16_Great.l1 k x3 0 x236000 x236001 x236002 x236003 x236004 x236005 x236006 x236007 x236008)) else (none)) else (some 0)
def quarrellaw16_Great.l1 : Nat → Int → Int → Int → Int → Int → Int → Int → Int → List Int → List Int → List (List (List (S80))) → Option (Int)
  | 0, _, _, _, _, _, _, _, _, _, _, _ => none
  | k + 1, x3, x4, x236000, x236001, x236002, x236003, x236004, x236005, x236006, x236007, x236008 => if 0 ≤ x3 then (if x3 < (x236008.length : Int) then (if x4 < ((rd_L7 x236008 x3).length : Int) then (if 0 ≤ x4 then (if ((rd_L6 (rd_L7 x236008 x3) x4).length : Int) > 20 then (some 1) else (quarrellaw16_Great.l1 k x3 (wrap64 (x4 + 1)) x236000 x236001 x236002 x236003 x236004 x236005 x236006 x236007 x236008)) else (none)) else (quarrellaw16_Great.l0 k (wrap64 (x3 + 1)) x236000 x236001 x236002 x236003 x236004 x236005 x236006 x236007 x236008)) else (none)) else (none)
end
def quarrellaw16_Great.f (k : Nat) (a0_0 : Int) (a0_1 : Int) (a0_2 : Int) (a0_3 : Int) (a0_4 : Int) (a0_5 : Int) (l0_6 : List Int) (l0_7 : List Int) (l0_8 : List (List (List (S80)))) : Option (Int) := if (l0_6.length : Int) > 20 then (quarrellaw16_Great.j0 k true a0_0 a0_1 a0_2 a0_3 a0_4 a0_5 l0_6 l0_7 l0_8) else (if (l0_7.length : Int) > 50 then (quarrellaw16_Great.j0 k true a0_0 a0_1 a0_2 a0_3 a0_4 a0_5 l0_6 l0_7 l0_8) else (quarrellaw16_Great.j0 k (decide ((l0_8.length : Int) > 10)) a0_0 a0_1 a0_2 a0_3 a0_4 a0_5 l0_6 l0_7 l0_8))
theorem quarrellaw16_Great.mono_l : ∀ k, (∀ y0 y1 y2 y3 y4 y5 y6 y7 y8 y9, LeO (quarrellaw16_Great.j0 k y0 y1 y2 y3 y4 y5 y6 y7 y8 y9) (quarrellaw16_Great.j0 (k + 1) y0 y1 y2 y3 y4 y5 y6 y7 y8 y9)) ∧ (∀ y0 y1 y2 y3 y4 y5 y6 y7 y8 y9, LeO (quarrellaw16_Great.l0 k y0 y1 y2 y3 y4 y5 y6 y7 y8 y9) (quarrellaw16_Great.l0 (k + 1) y0 y1 y2 y3 y4 y5 y6 y7 y8 y9)) ∧ (∀ y0 y1 y2 y3 y4 y5 y6 y7 y8 y9 y10, LeO (quarrellaw16_Great.l1 k y0 y1 y2 y3 y4 y5 y6 y7 y8 y9 y10) (quarrellaw16_Great.l1 (k + 1) y0 y1 y2 y3 y4 y5 y6 y7 y8 y9 y10))
  | 0 => ⟨fun _ _ _ _ _ _ _ _ _ _ r h => by simp [quarrellaw16_Great.j0] at h, fun _ _ _ _ _ _ _ _ _ _ r h => by simp [quarrellaw16_Great.l0] at h, fun _ _ _ _ _ _ _ _ _ _ _ r h => by simp [quarrellaw16_Great.l1] at h⟩
  | k + 1 => by
    obtain ⟨ih0, ih1, ih2⟩ := quarrellaw16_Great.mono_l k
    refine ⟨?_, ?_, ?_⟩
    · intro y0 y1 y2 y3 y4 y5 y6 y7 y8 y9
      unfold quarrellaw16_Great.j0
      repeat' first
      | (with_reducible exact ih0 _ _ _ _ _ _ _ _ _ _)
      | (with_reducible exact ih1 _ _ _ _ _ _ _ _ _ _)
      | (with_reducible exact ih2 _ _ _ _ _ _ _ _ _ _ _)
      | (with_reducible exact LeO.refl _)
      | (with_reducible exact LeO.none _)
      | (with_reducible refine LeO.ite ?_ ?_)
      | (with_reducible refine LeO.bind ?_ (fun _ => ?_))
      | exact ih0 _ _ _ _ _ _ _ _ _ _
      | exact ih1 _ _ _ _ _ _ _ _ _ _
      | exact ih2 _ _ _ _ _ _ _ _ _ _ _
      | exact LeO.none _
      | refine LeO.ite ?_ ?_
      | refine LeO.bind ?_ (fun _ => ?_)
    · intro y0 y1 y2 y3 y4 y5 y6 y7 y8 y9
      unfold quarrellaw16_Great.l0
      repeat' first
      | (with_reducible exact ih0 _ _ _ _ _ _ _ _ _ _)
      | (with_reducible exact ih1 _ _ _ _ _ _ _ _ _ _)
      | (with_reducible exact ih2 _ _ _ _ _ _ _ _ _ _ _)
      | (with_reducible exact LeO.refl _)
      | (with_reducible exact LeO.none _)
      | (with_reducible refine LeO.ite ?_ ?_)
      | (with_reducible refine LeO.bind ?_ (fun _ => ?_))
      | exact ih0 _ _ _ _ _ _ _ _ _ _
      | exact ih1 _ _ _ _ _ _ _ _ _ _
      | exact ih2 _ _ _ _ _ _ _ _ _ _ _
      | exact LeO.none _
      | refine LeO.ite ?_ ?_
      | refine LeO.bind ?_ (fun _ => ?_)
    · intro y0 y1 y2 y3 y4 y5 y6 y7 y8 y9 y10
      unfold quarrellaw16_Great.l1
      repeat' first
      | (with_reducible exact ih0 _ _ _ _ _ _ _ _ _ _)
      | (with_reducible exact ih1 _ _ _ _ _ _ _ _ _ _)
      | (with_reducible exact ih2 _ _ _ _ _ _ _ _ _ _ _)
      | (with_reducible exact LeO.refl _)
      | (with_reducible exact LeO.none _)
      | (with_reducible refine LeO.ite ?_ ?_)
      | (with_reducible refine LeO.bind ?_ (fun _ => ?_))
      | exact ih0 _ _ _ _ _ _ _ _ _ _
      | exact ih1 _ _ _ _ _ _ _ _ _ _
      | exact ih2 _ _ _ _ _ _ _ _ _ _ _
      | exact LeO.none _
      | refine LeO.ite ?_ ?_
      | refine LeO.bind ?_ (fun _ => ?_)
theorem quarrellaw16_Great.mono : ∀ a0 a1 a2 a3 a4 a5 a6 a7 a8 k, LeO (quarrellaw16_Great.f k a0 a1 a2 a3 a4 a5 a6 a7 a8) (quarrellaw16_Great.f (k + 1) a0 a1 a2 a3 a4 a5 a6 a7 a8) := by
  intro a0 a1 a2 a3 a4 a5 a6 a7 a8 k
  obtain ⟨ih0, ih1, ih2⟩ := quarrellaw16_Great.mono_l k
  unfold quarrellaw16_Great.f
  repeat' first
      | (with_reducible exact ih0 _ _ _ _ _ _ _ _ _ _)
      | (with_reducible exact ih1 _ _ _ _ _ _ _ _ _ _)
      | (with_reducible exact ih2 _ _ _ _ _ _ _ _ _ _ _)
      | (with_reducible exact LeO.refl _)
      | (with_reducible exact LeO.none _)
      | (with_reducible refine LeO.ite ?_ ?_)
      | (with_reducible refine LeO.bind ?_ (fun _ => ?_))
      | exact ih0 _ _ _ _ _ _ _ _ _ _
      | exact ih1 _ _ _ _ _ _ _ _ _ _
      | exact ih2 _ _ _ _ _ _ _ _ _ _ _
      | exact LeO.none _
      | refine LeO.ite ?_ ?_
      | refine LeO.bind ?_ (fun _ => ?_)
set_option maxHeartbeats 8000000 in
set_option maxRecDepth 100000 in
theorem quarrellaw16_Great.calls (k : Nat) (a0_0 : Int) (a0_1 : Int) (a0_2 : Int) (a0_3 : Int) (a0_4 : Int) (a0_5 : Int) (A0_6 : Option Addr) (c0_6 : Nat) (l0_6 : List Int) (A0_7 : Option Addr) (c0_7 : Nat) (l0_7 : List Int) (A0_8 : Option Addr) (c0_8 : Nat) (l0_8 : List (List (List (S80)))) (r : Int) (w : World) (hr0_6 : Kd.C (Kd.int .i64) w A0_6 l0_6.length l0_6) (hc0_6 : l0_6.length ≤ c0_6) (hr0_7 : Kd.C (Kd.int .u8) w A0_7 l0_7.length l0_7) (hc0_7 : l0_7.length ≤ c0_7) (hr0_8 : Kd.C (Kd.slice 61 (Kd.slice 80 k80)) w A0_8 l0_8.length l0_8) (hc0_8 : l0_8.length ≤ c0_8) (h : quarrellaw16_Great.f k a0_0 a0_1 a0_2 a0_3 a0_4 a0_5 l0_6 l0_7 l0_8 = some r) :
  Calls Try.prog 30 #[.agg #[.int .i64 a0_0, .int .i64 a0_1, .int .i64 a0_2, .int .i64 a0_3, .int .i64 a0_4, .int .i64 a0_5, .slice A0_6 l0_6.length c0_6, .slice A0_7 l0_7.length c0_7, .slice A0_8 l0_8.length c0_8]] w fun e w' => e = .returned (.int .i64 r) ∧ Below w.heap.size w w' := by
 have hu68 := Try.underlying68
 have HR0_6 := Aside0.mk hr0_6
 have HC0_6 := Aside0.mk hc0_6
 clear hr0_6 hc0_6
 have HR0_7 := Aside0.mk hr0_7
 have HC0_7 := Aside0.mk hc0_7
 clear hr0_7 hc0_7
 have HR0_8 := Aside0.mk hr0_8
 have HC0_8 := Aside0.mk hc0_8
 clear hr0_8 hc0_8
 have HB := Aside0.mk (Below.refl w.heap.size w)
 have H : (if (l0_6.length : Int) > 20 then (quarrellaw16_Great.j0 k true a0_0 a0_1 a0_2 a0_3 a0_4 a0_5 l0_6 l0_7 l0_8) else (if (l0_7.length : Int) > 50 then (quarrellaw16_Great.j0 k true a0_0 a0_1 a0_2 a0_3 a0_4 a0_5 l0_6 l0_7 l0_8) else (quarrellaw16_Great.j0 k (decide ((l0_8.length : Int) > 10)) a0_0 a0_1 a0_2 a0_3 a0_4 a0_5 l0_6 l0_7 l0_8))) = some r := h
 clear h
 have HC2 := Aside0.mk H
 clear H
 go_enter Try.func30, Try.ntmps30
 go_upto_region 1 with (first | ((with_reducible refine gate_dst (N := 1) rfl ?_); (try (refine gate_guard (by rfl) ?_; dsimp only)); refine box_event ?hg (N := 1) ?hd (cs := #[.int .i64 a0_0, .int .i64 a0_1, .int .i64 a0_2, .int .i64 a0_3, .int .i64 a0_4, .int .i64 a0_5, .slice A0_6 l0_6.length c0_6, .slice A0_7 l0_7.length c0_7, .slice A0_8 l0_8.length c0_8]) (t := 68) ?hr ?_; (case hd => rfl); (case hg => rfl); (case hr => first | (go_simp; done) | (go_simp; rfl)); intro gb235 hg w3 hbox hb; have n0_ := Aside0.mk (below_step (by repeat (first | (with_reducible first | exact HB.out | apply below_alloc | apply pw_below_drewN | apply below_drew1) | exact HB.out)) hb); have n1_ := Aside0.mk (hbox); have n2_ := Aside0.mk ((by rw [hg]; exact (below_size (by repeat (first | (with_reducible first | exact HB.out | apply below_alloc | apply pw_below_drewN | apply below_drew1) | exact HB.out))) : w.heap.size ≤ gb235)); have n3_ := Aside0.mk ((by rw [hg]; exact (below_size (by repeat (first | (with_reducible first | exact HB.out | apply below_alloc | apply pw_below_drewN | apply below_drew1) | exact HB.out))) : w.heap.size ≤ gb235)); clear HB; have HB := n0_; have BK235 := n1_; have GW235 := n2_; have GE235 := n3_; clear n0_ n1_ n2_ n3_; clear hb hbox hg))
 (try simp only [Act.put, List.setIfInBounds_toArray, List.set_cons_zero, List.set_cons_succ])
 go_cut [20] (fun v20 wc => ∃ (kq : Nat) (x20_1 : Bool), v20 = .bool x20_1 ∧ Aside0 (quarrellaw16_Great.j0 kq x20_1 a0_0 a0_1 a0_2 a0_3 a0_4 a0_5 l0_6 l0_7 l0_8 = some r) ∧ Aside0 (kq ≤ k) ∧ Aside0 (wc.heap[gb235]? = some (.cells #[.int .i64 a0_0, .int .i64 a0_1, .int .i64 a0_2, .int .i64 a0_3, .int .i64 a0_4, .int .i64 a0_5, (.slice A0_6 l0_6.length c0_6), (.slice A0_7 l0_7.length c0_7), (.slice A0_8 l0_8.length c0_8)] 68 (0, 0))) ∧ Aside0 (Below w.heap.size w wc))
 case first =>
  have H := HC2.out
  clear HC2
  by_cases c4 : (l0_6.length : Int) > 20
  ·rw [if_pos c4] at H
   have c4b0 : decide (20 < (l0_6.length : Int)) = true := decide_eq_true c4
   have c4b1 : decide (20 < l0_6.length) = true := decide_eq_true (by omega)
   clear c4
   (first | rw [c4b0] | (simp only [i64_w, i32_w]; rw [c4b0]) | skip)
   have H' := Aside0.mk H
   clear H
   have hcz5_0 : w3.cell? ⟨gb235, 0, none⟩ = some (.int .i64 a0_0) := (blk_cell BK235.out 0).trans rfl
   have hcz5_1 : w3.cell? ⟨gb235, 1, none⟩ = some (.int .i64 a0_1) := (blk_cell BK235.out 1).trans rfl
   have hcz5_2 : w3.cell? ⟨gb235, 2, none⟩ = some (.int .i64 a0_2) := (blk_cell BK235.out 2).trans rfl
   have hcz5_3 : w3.cell? ⟨gb235, 3, none⟩ = some (.int .i64 a0_3) := (blk_cell BK235.out 3).trans rfl
   have hcz5_4 : w3.cell? ⟨gb235, 4, none⟩ = some (.int .i64 a0_4) := (blk_cell BK235.out 4).trans rfl
   have hcz5_5 : w3.cell? ⟨gb235, 5, none⟩ = some (.int .i64 a0_5) := (blk_cell BK235.out 5).trans rfl
   have hcz5_6 : w3.cell? ⟨gb235, 6, none⟩ = some (.slice A0_6 l0_6.length c0_6) := (blk_cell BK235.out 6).trans rfl
   have hcz5_7 : w3.cell? ⟨gb235, 7, none⟩ = some (.slice A0_7 l0_7.length c0_7) := (blk_cell BK235.out 7).trans rfl
   have hcz5_8 : w3.cell? ⟨gb235, 8, none⟩ = some (.slice A0_8 l0_8.length c0_8) := (blk_cell BK235.out 8).trans rfl
   have hfz5_0 := blk_frozen BK235.out 0
   have hfz5_1 := blk_frozen BK235.out 1
   have hfz5_2 := blk_frozen BK235.out 2
   have hfz5_3 := blk_frozen BK235.out 3
   have hfz5_4 := blk_frozen BK235.out 4
   have hfz5_5 := blk_frozen BK235.out 5
   have hfz5_6 := blk_frozen BK235.out 6
   have hfz5_7 := blk_frozen BK235.out 7
   have hfz5_8 := blk_frozen BK235.out 8
   go_wp2
   go_meet
   case rel => exact ⟨_, (true), (by first | rfl | (simp; done) | (simp [*]; done)), H', ⟨by first | omega | exact Nat.le_refl _⟩, ⟨by (with_reducible repeat (first | refine blk_drewN ?_ _ | refine blk_drew ?_ | refine blk_alloc ?_ _)); exact BK235.out⟩, ⟨by repeat (first | (with_reducible first | exact HB.out | apply below_alloc | apply pw_below_drewN | apply below_drew1 | refine below_set ?_ GE235.out) | exact HB.out)⟩⟩
  ·rw [if_neg c4] at H
   have c4b0 : decide (20 < (l0_6.length : Int)) = false := decide_eq_false c4
   have c4b1 : decide (20 < l0_6.length) = false := decide_eq_false (by omega)
   clear c4
   (first | rw [c4b0] | (simp only [i64_w, i32_w]; rw [c4b0]) | skip)
   by_cases c6 : (l0_7.length : Int) > 50
   ·rw [if_pos c6] at H
    have c6b0 : decide (50 < (l0_7.length : Int)) = true := decide_eq_true c6
    have c6b1 : decide (50 < l0_7.length) = true := decide_eq_true (by omega)
    clear c6
    have H' := Aside0.mk H
    clear H
    have hcz7_0 : w3.cell? ⟨gb235, 0, none⟩ = some (.int .i64 a0_0) := (blk_cell BK235.out 0).trans rfl
    have hcz7_1 : w3.cell? ⟨gb235, 1, none⟩ = some (.int .i64 a0_1) := (blk_cell BK235.out 1).trans rfl
    have hcz7_2 : w3.cell? ⟨gb235, 2, none⟩ = some (.int .i64 a0_2) := (blk_cell BK235.out 2).trans rfl
    have hcz7_3 : w3.cell? ⟨gb235, 3, none⟩ = some (.int .i64 a0_3) := (blk_cell BK235.out 3).trans rfl
    have hcz7_4 : w3.cell? ⟨gb235, 4, none⟩ = some (.int .i64 a0_4) := (blk_cell BK235.out 4).trans rfl
    have hcz7_5 : w3.cell? ⟨gb235, 5, none⟩ = some (.int .i64 a0_5) := (blk_cell BK235.out 5).trans rfl
    have hcz7_6 : w3.cell? ⟨gb235, 6, none⟩ = some (.slice A0_6 l0_6.length c0_6) := (blk_cell BK235.out 6).trans rfl
    have hcz7_7 : w3.cell? ⟨gb235, 7, none⟩ = some (.slice A0_7 l0_7.length c0_7) := (blk_cell BK235.out 7).trans rfl
    have hcz7_8 : w3.cell? ⟨gb235, 8, none⟩ = some (.slice A0_8 l0_8.length c0_8) := (blk_cell BK235.out 8).trans rfl
    have hfz7_0 := blk_frozen BK235.out 0
    have hfz7_1 := blk_frozen BK235.out 1
    have hfz7_2 := blk_frozen BK235.out 2
    have hfz7_3 := blk_frozen BK235.out 3
    have hfz7_4 := blk_frozen BK235.out 4
    have hfz7_5 := blk_frozen BK235.out 5
    have hfz7_6 := blk_frozen BK235.out 6
    have hfz7_7 := blk_frozen BK235.out 7
    have hfz7_8 := blk_frozen BK235.out 8
    go_wp2
    go_meet
    case rel => exact ⟨_, (true), (by first | rfl | (simp; done) | (simp [*]; done)), H', ⟨by first | omega | exact Nat.le_refl _⟩, ⟨by (with_reducible repeat (first | refine blk_drewN ?_ _ | refine blk_drew ?_ | refine blk_alloc ?_ _)); exact BK235.out⟩, ⟨by repeat (first | (with_reducible first | exact HB.out | apply below_alloc | apply pw_below_drewN | apply below_drew1 | refine below_set ?_ GE235.out) | exact HB.out)⟩⟩
   ·rw [if_neg c6] at H
    have c6b0 : decide (50 < (l0_7.length : Int)) = false := decide_eq_false c6
    have c6b1 : decide (50 < l0_7.length) = false := decide_eq_false (by omega)
    clear c6
    have H' := Aside0.mk H
    clear H
    have hcz8_0 : w3.cell? ⟨gb235, 0, none⟩ = some (.int .i64 a0_0) := (blk_cell BK235.out 0).trans rfl
    have hcz8_1 : w3.cell? ⟨gb235, 1, none⟩ = some (.int .i64 a0_1) := (blk_cell BK235.out 1).trans rfl
    have hcz8_2 : w3.cell? ⟨gb235, 2, none⟩ = some (.int .i64 a0_2) := (blk_cell BK235.out 2).trans rfl
    have hcz8_3 : w3.cell? ⟨gb235, 3, none⟩ = some (.int .i64 a0_3) := (blk_cell BK235.out 3).trans rfl
    have hcz8_4 : w3.cell? ⟨gb235, 4, none⟩ = some (.int .i64 a0_4) := (blk_cell BK235.out 4).trans rfl
    have hcz8_5 : w3.cell? ⟨gb235, 5, none⟩ = some (.int .i64 a0_5) := (blk_cell BK235.out 5).trans rfl
    have hcz8_6 : w3.cell? ⟨gb235, 6, none⟩ = some (.slice A0_6 l0_6.length c0_6) := (blk_cell BK235.out 6).trans rfl
    have hcz8_7 : w3.cell? ⟨gb235, 7, none⟩ = some (.slice A0_7 l0_7.length c0_7) := (blk_cell BK235.out 7).trans rfl
    have hcz8_8 : w3.cell? ⟨gb235, 8, none⟩ = some (.slice A0_8 l0_8.length c0_8) := (blk_cell BK235.out 8).trans rfl
    have hfz8_0 := blk_frozen BK235.out 0
    have hfz8_1 := blk_frozen BK235.out 1
    have hfz8_2 := blk_frozen BK235.out 2
    have hfz8_3 := blk_frozen BK235.out 3
    have hfz8_4 := blk_frozen BK235.out 4
    have hfz8_5 := blk_frozen BK235.out 5
    have hfz8_6 := blk_frozen BK235.out 6
    have hfz8_7 := blk_frozen BK235.out 7
    have hfz8_8 := blk_frozen BK235.out 8
    go_wp2
    go_meet
    case rel => exact ⟨_, (decide ((l0_8.length : Int) > 10)), (by first | rfl | (simp; done) | (simp [*]; done)), H', ⟨by first | omega | exact Nat.le_refl _⟩, ⟨by (with_reducible repeat (first | refine blk_drewN ?_ _ | refine blk_drew ?_ | refine blk_alloc ?_ _)); exact BK235.out⟩, ⟨by repeat (first | (with_reducible first | exact HB.out | apply below_alloc | apply pw_below_drewN | apply below_drew1 | refine below_set ?_ GE235.out) | exact HB.out)⟩⟩
 case rest =>
  clear HC2
  try clear p2
  try clear c3
  try clear c4
  try clear c4b0
  try clear c4b1
  try clear c6
  try clear c6b0
  try clear c6b1
  try clear hcz5_0
  try clear hcz5_1
  try clear hcz5_2
  try clear hcz5_3
  try clear hcz5_4
  try clear hcz5_5
  try clear hcz5_6
  try clear hcz5_7
  try clear hcz5_8
  try clear hcz7_0
  try clear hcz7_1
  try clear hcz7_2
  try clear hcz7_3
  try clear hcz7_4
  try clear hcz7_5
  try clear hcz7_6
  try clear hcz7_7
  try clear hcz7_8
  try clear hcz8_0
  try clear hcz8_1
  try clear hcz8_2
  try clear hcz8_3
  try clear hcz8_4
  try clear hcz8_5
  try clear hcz8_6
  try clear hcz8_7
  try clear hcz8_8
  try clear hfz5_0
  try clear hfz5_1
  try clear hfz5_2
  try clear hfz5_3
  try clear hfz5_4
  try clear hfz5_5
  try clear hfz5_6
  try clear hfz5_7
  try clear hfz5_8
  try clear hfz7_0
  try clear hfz7_1
  try clear hfz7_2
  try clear hfz7_3
  try clear hfz7_4
  try clear hfz7_5
  try clear hfz7_6
  try clear hfz7_7
  try clear hfz7_8
  try clear hfz8_0
  try clear hfz8_1
  try clear hfz8_2
  try clear hfz8_3
  try clear hfz8_4
  try clear hfz8_5
  try clear hfz8_6
  try clear hfz8_7
  try clear hfz8_8
  obtain ⟨kq, x20_1, rfl, HA, HJ1, BK235, HB⟩ := hcut
  cases kq with
  | zero => exact absurd HA.out (by simp [quarrellaw16_Great.j0])
  | succ kj1 =>
   have H := HA.out
   clear HA
   simp only [quarrellaw16_Great.j0] at H
   by_cases c9 : x20_1 = true
   ·subst c9
    have H1 : (some 1) = some r := by rw [if_pos rfl] at H; exact H
    clear H
    have H := H1
    clear H1
    obtain rfl := Option.some.inj H
    go_wp2
    go_ret
    exact ⟨by first | rfl | (simp [errW_none, errW_some] <;> rfl) | (simp [*, errW_none, errW_some] <;> rfl), by repeat (first | (with_reducible first | exact HB.out | apply below_alloc | apply pw_below_drewN | apply below_drew1 | refine below_set ?_ GE235.out) | exact HB.out)⟩
   ·replace c9 := Bool.eq_false_iff.mpr c9
    subst c9
    have H1 : (quarrellaw16_Great.l0 kj1 0 a0_0 a0_1 a0_2 a0_3 a0_4 a0_5 l0_6 l0_7 l0_8) = some r := by rw [if_neg (show ¬ (false = true) by decide)] at H; exact H
    clear H
    have H := H1
    clear H1
    have H' := Aside0.mk H
    clear H
    go_wp2
    go_loopg [3] kj1 (fun kq v3 w' => ∃ (x3_2 : Int), v3 = .int .i64 x3_2 ∧ Aside0 (quarrellaw16_Great.l0 kq x3_2 a0_0 a0_1 a0_2 a0_3 a0_4 a0_5 l0_6 l0_7 l0_8 = some r) ∧ Aside0 (kq ≤ kj1) ∧ Aside0 (w'.heap[gb235]? = some (.cells #[.int .i64 a0_0, .int .i64 a0_1, .int .i64 a0_2, .int .i64 a0_3, .int .i64 a0_4, .int .i64 a0_5, (.slice A0_6 l0_6.length c0_6), (.slice A0_7 l0_7.length c0_7), (.slice A0_8 l0_8.length c0_8)] 68 (0, 0))) ∧ Aside0 (Below w.heap.size w w'))
    case atStart => exact ⟨(0), (by first | rfl | (simp; done) | (simp [*]; done)), H', ⟨Nat.le_refl _⟩, ⟨by (with_reducible repeat (first | refine blk_drewN ?_ _ | refine blk_drew ?_ | refine blk_alloc ?_ _)); exact BK235.out⟩, ⟨by repeat (first | (with_reducible first | exact HB.out | apply below_alloc | apply pw_below_drewN | apply below_drew1 | refine below_set ?_ GE235.out) | exact HB.out)⟩⟩
    case round =>
     clear H'
     try clear p2
     try clear c3
     try clear c4
     try clear c4b0
     try clear c4b1
     try clear c6
     try clear c6b0
     try clear c6b1
     try clear c9
     try clear hcz5_0
     try clear hcz5_1
     try clear hcz5_2
     try clear hcz5_3
     try clear hcz5_4
     try clear hcz5_5
     try clear hcz5_6
     try clear hcz5_7
     try clear hcz5_8
     try clear hcz7_0
     try clear hcz7_1
     try clear hcz7_2
     try clear hcz7_3
     try clear hcz7_4
     try clear hcz7_5
     try clear hcz7_6
     try clear hcz7_7
     try clear hcz7_8
     try clear hcz8_0
     try clear hcz8_1
     try clear hcz8_2
     try clear hcz8_3
     try clear hcz8_4
     try clear hcz8_5
     try clear hcz8_6
     try clear hcz8_7
     try clear hcz8_8
     try clear hfz5_0
     try clear hfz5_1
     try clear hfz5_2
     try clear hfz5_3
     try clear hfz5_4
     try clear hfz5_5
     try clear hfz5_6
     try clear hfz5_7
     try clear hfz5_8
     try clear hfz7_0
     try clear hfz7_1
     try clear hfz7_2
     try clear hfz7_3
     try clear hfz7_4
     try clear hfz7_5
     try clear hfz7_6
     try clear hfz7_7
     try clear hfz7_8
     try clear hfz8_0
     try clear hfz8_1
     try clear hfz8_2
     try clear hfz8_3
     try clear hfz8_4
     try clear hfz8_5
     try clear hfz8_6
     try clear hfz8_7
     try clear hfz8_8
     try clear p2
     obtain ⟨x3_2, rfl, HA, HK2, BK235, HB⟩ := hrel
     cases gk with
     | zero => exact absurd HA.out (by simp [quarrellaw16_Great.l0])
     | succ k2 =>
      have H := HA.out
      clear HA
      simp only [quarrellaw16_Great.l0] at H
      by_cases c10 : x3_2 < (l0_8.length : Int)
      ·rw [if_pos c10] at H
       have c10b0 : decide (x3_2 < (l0_8.length : Int)) = true := decide_eq_true c10
       clear c10
       by_cases c11 : 0 ≤ x3_2
       ·rw [if_pos c11] at H
        have c11b0 : decide (0 ≤ x3_2) = true := decide_eq_true c11
        clear c11
        by_cases c12 : ((rd_L7 l0_8 x3_2).length : Int) > 20
        ·rw [if_pos c12] at H
         have c12b0 : decide (20 < ((rd_L7 l0_8 x3_2).length : Int)) = true := decide_eq_true c12
         have c12b1 : decide (20 < (rd_L7 l0_8 x3_2).length) = true := decide_eq_true (by omega)
         clear c12
         obtain rfl := Option.some.inj H
         have hcz13_0 : wr.cell? ⟨gb235, 0, none⟩ = some (.int .i64 a0_0) := (blk_cell BK235.out 0).trans rfl
         have hcz13_1 : wr.cell? ⟨gb235, 1, none⟩ = some (.int .i64 a0_1) := (blk_cell BK235.out 1).trans rfl
         have hcz13_2 : wr.cell? ⟨gb235, 2, none⟩ = some (.int .i64 a0_2) := (blk_cell BK235.out 2).trans rfl
         have hcz13_3 : wr.cell? ⟨gb235, 3, none⟩ = some (.int .i64 a0_3) := (blk_cell BK235.out 3).trans rfl
         have hcz13_4 : wr.cell? ⟨gb235, 4, none⟩ = some (.int .i64 a0_4) := (blk_cell BK235.out 4).trans rfl
         have hcz13_5 : wr.cell? ⟨gb235, 5, none⟩ = some (.int .i64 a0_5) := (blk_cell BK235.out 5).trans rfl
         have hcz13_6 : wr.cell? ⟨gb235, 6, none⟩ = some (.slice A0_6 l0_6.length c0_6) := (blk_cell BK235.out 6).trans rfl
         have hcz13_7 : wr.cell? ⟨gb235, 7, none⟩ = some (.slice A0_7 l0_7.length c0_7) := (blk_cell BK235.out 7).trans rfl
         have hcz13_8 : wr.cell? ⟨gb235, 8, none⟩ = some (.slice A0_8 l0_8.length c0_8) := (blk_cell BK235.out 8).trans rfl
         have hfz13_0 := blk_frozen BK235.out 0
         have hfz13_1 := blk_frozen BK235.out 1
         have hfz13_2 := blk_frozen BK235.out 2
         have hfz13_3 := blk_frozen BK235.out 3
         have hfz13_4 := blk_frozen BK235.out 4
         have hfz13_5 := blk_frozen BK235.out 5
         have hfz13_6 := blk_frozen BK235.out 6
         have hfz13_7 := blk_frozen BK235.out 7
         have hfz13_8 := blk_frozen BK235.out 8
         have p236 : 0 ≤ (x3_2 : Int) := of_decide_eq_true (by first | (with_reducible assumption) | assumption)
         have q236 : x3_2 < (l0_8.length : Int) := of_decide_eq_true (by first | (with_reducible assumption) | assumption)
         obtain ⟨ad236, A236_0, c236_0, e236, hx236_0, hl236_0, hi236_0⟩ := at_L7 HR0_8.out x3_2 p236 q236
         cases e236
         replace hx236_0 := (HB.out.cell (World.block_lt_of_cell? w _ hx236_0)).trans hx236_0
         have HR236_0 := Aside0.mk hi236_0
         have HC236_0 := Aside0.mk hl236_0
         clear hi236_0 hl236_0
         replace p236 := eq_true p236
         replace q236 := eq_true q236
         go_wp2
         go_ret
         exact ⟨by first | rfl | (simp [errW_none, errW_some] <;> rfl) | (simp [*, errW_none, errW_some] <;> rfl), by repeat (first | (with_reducible first | exact HB.out | apply below_alloc | apply pw_below_drewN | apply below_drew1 | refine below_set ?_ GE235.out) | exact HB.out)⟩
        ·rw [if_neg c12] at H
         have c12b0 : decide (20 < ((rd_L7 l0_8 x3_2).length : Int)) = false := decide_eq_false c12
         have c12b1 : decide (20 < (rd_L7 l0_8 x3_2).length) = false := decide_eq_false (by omega)
         clear c12
         have H' := Aside0.mk H
         clear H
         have hcz14_0 : wr.cell? ⟨gb235, 0, none⟩ = some (.int .i64 a0_0) := (blk_cell BK235.out 0).trans rfl
         have hcz14_1 : wr.cell? ⟨gb235, 1, none⟩ = some (.int .i64 a0_1) := (blk_cell BK235.out 1).trans rfl
         have hcz14_2 : wr.cell? ⟨gb235, 2, none⟩ = some (.int .i64 a0_2) := (blk_cell BK235.out 2).trans rfl
         have hcz14_3 : wr.cell? ⟨gb235, 3, none⟩ = some (.int .i64 a0_3) := (blk_cell BK235.out 3).trans rfl
         have hcz14_4 : wr.cell? ⟨gb235, 4, none⟩ = some (.int .i64 a0_4) := (blk_cell BK235.out 4).trans rfl
         have hcz14_5 : wr.cell? ⟨gb235, 5, none⟩ = some (.int .i64 a0_5) := (blk_cell BK235.out 5).trans rfl
         have hcz14_6 : wr.cell? ⟨gb235, 6, none⟩ = some (.slice A0_6 l0_6.length c0_6) := (blk_cell BK235.out 6).trans rfl
         have hcz14_7 : wr.cell? ⟨gb235, 7, none⟩ = some (.slice A0_7 l0_7.length c0_7) := (blk_cell BK235.out 7).trans rfl
         have hcz14_8 : wr.cell? ⟨gb235, 8, none⟩ = some (.slice A0_8 l0_8.length c0_8) := (blk_cell BK235.out 8).trans rfl
         have hfz14_0 := blk_frozen BK235.out 0
         have hfz14_1 := blk_frozen BK235.out 1
         have hfz14_2 := blk_frozen BK235.out 2
         have hfz14_3 := blk_frozen BK235.out 3
         have hfz14_4 := blk_frozen BK235.out 4
         have hfz14_5 := blk_frozen BK235.out 5
         have hfz14_6 := blk_frozen BK235.out 6
         have hfz14_7 := blk_frozen BK235.out 7
         have hfz14_8 := blk_frozen BK235.out 8
         have p236 : 0 ≤ (x3_2 : Int) := of_decide_eq_true (by first | (with_reducible assumption) | assumption)
         have q236 : x3_2 < (l0_8.length : Int) := of_decide_eq_true (by first | (with_reducible assumption) | assumption)
         obtain ⟨ad236, A236_0, c236_0, e236, hx236_0, hl236_0, hi236_0⟩ := at_L7 HR0_8.out x3_2 p236 q236
         cases e236
         replace hx236_0 := (HB.out.cell (World.block_lt_of_cell? w _ hx236_0)).trans hx236_0
         have HR236_0 := Aside0.mk hi236_0
         have HC236_0 := Aside0.mk hl236_0
         clear hi236_0 hl236_0
         replace p236 := eq_true p236
         replace q236 := eq_true q236
         go_wp2
         go_loopg [4] k2 (fun kq v4 w' => ∃ (x4_3 : Int), v4 = .int .i64 x4_3 ∧ Aside0 (quarrellaw16_Great.l1 kq x3_2 x4_3 a0_0 a0_1 a0_2 a0_3 a0_4 a0_5 l0_6 l0_7 l0_8 = some r) ∧ Aside0 (kq ≤ k2) ∧ Aside0 (w'.heap[gb235]? = some (.cells #[.int .i64 a0_0, .int .i64 a0_1, .int .i64 a0_2, .int .i64 a0_3, .int .i64 a0_4, .int .i64 a0_5, (.slice A0_6 l0_6.length c0_6), (.slice A0_7 l0_7.length c0_7), (.slice (some ad236) l0_8.length c0_8)] 68 (0, 0))) ∧ Aside0 (Below w.heap.size w w'))
         case atStart => exact ⟨(0), (by first | rfl | (simp; done) | (simp [*]; done)), H', ⟨Nat.le_refl _⟩, ⟨by (with_reducible repeat (first | refine blk_drewN ?_ _ | refine blk_drew ?_ | refine blk_alloc ?_ _)); exact BK235.out⟩, ⟨by repeat (first | (with_reducible first | exact HB.out | apply below_alloc | apply pw_below_drewN | apply below_drew1 | refine below_set ?_ GE235.out) | exact HB.out)⟩⟩
         case round =>
          clear H'
          try clear c1
          try clear c2
          try clear p2
          try clear q2
          try clear hx2
          try clear c3
          try clear c4
          try clear c4b0
          try clear c4b1
          try clear c6
          try clear c6b0
          try clear c6b1
          try clear c9
          try clear c10
          try clear c10b0
          try clear c11
          try clear c11b0
          try clear c12
          try clear c12b0
          try clear c12b1
          try clear hcz13_0
          try clear hcz13_1
          try clear hcz13_2
          try clear hcz13_3
          try clear hcz13_4
          try clear hcz13_5
          try clear hcz13_6
          try clear hcz13_7
          try clear hcz13_8
          try clear hcz14_0
          try clear hcz14_1
          try clear hcz14_2
          try clear hcz14_3
          try clear hcz14_4
          try clear hcz14_5
          try clear hcz14_6
          try clear hcz14_7
          try clear hcz14_8
          try clear hcz5_0
          try clear hcz5_1
          try clear hcz5_2
          try clear hcz5_3
          try clear hcz5_4
          try clear hcz5_5
          try clear hcz5_6
          try clear hcz5_7
          try clear hcz5_8
          try clear hcz7_0
          try clear hcz7_1
          try clear hcz7_2
          try clear hcz7_3
          try clear hcz7_4
          try clear hcz7_5
          try clear hcz7_6
          try clear hcz7_7
          try clear hcz7_8
          try clear hcz8_0
          try clear hcz8_1
          try clear hcz8_2
          try clear hcz8_3
          try clear hcz8_4
          try clear hcz8_5
          try clear hcz8_6
          try clear hcz8_7
          try clear hcz8_8
          try clear hfz13_0
          try clear hfz13_1
          try clear hfz13_2
          try clear hfz13_3
          try clear hfz13_4
          try clear hfz13_5
          try clear hfz13_6
          try clear hfz13_7
          try clear hfz13_8
          try clear hfz14_0
          try clear hfz14_1
          try clear hfz14_2
          try clear hfz14_3
          try clear hfz14_4
          try clear hfz14_5
          try clear hfz14_6
          try clear hfz14_7
          try clear hfz14_8
          try clear hfz5_0
          try clear hfz5_1
          try clear hfz5_2
          try clear hfz5_3
          try clear hfz5_4
          try clear hfz5_5
          try clear hfz5_6
          try clear hfz5_7
          try clear hfz5_8
          try clear hfz7_0
          try clear hfz7_1
          try clear hfz7_2
          try clear hfz7_3
          try clear hfz7_4
          try clear hfz7_5
          try clear hfz7_6
          try clear hfz7_7
          try clear hfz7_8
          try clear hfz8_0
          try clear hfz8_1
          try clear hfz8_2
          try clear hfz8_3
          try clear hfz8_4
          try clear hfz8_5
          try clear hfz8_6
          try clear hfz8_7
          try clear hfz8_8
          try clear hx236_0
          try clear p2
          try clear p236
          try clear q236
          obtain ⟨x4_3, rfl, HA, HK3, BK235, HB⟩ := hrel
          cases gk with
          | zero => exact absurd HA.out (by simp [quarrellaw16_Great.l1])
          | succ k3 =>
           have H := HA.out
           clear HA
           simp only [quarrellaw16_Great.l1] at H
           by_cases c15 : 0 ≤ x3_2
           ·rw [if_pos c15] at H
            have c15b0 : decide (0 ≤ x3_2) = true := decide_eq_true c15
            clear c15
            by_cases c16 : x3_2 < (l0_8.length : Int)
            ·rw [if_pos c16] at H
             have c16b0 : decide (x3_2 < (l0_8.length : Int)) = true := decide_eq_true c16
             clear c16
             by_cases c17 : x4_3 < ((rd_L7 l0_8 x3_2).length : Int)
             ·rw [if_pos c17] at H
              have c17b0 : decide (x4_3 < ((rd_L7 l0_8 x3_2).length : Int)) = true := decide_eq_true c17
              clear c17
              by_cases c18 : 0 ≤ x4_3
              ·rw [if_pos c18] at H
               have c18b0 : decide (0 ≤ x4_3) = true := decide_eq_true c18
               clear c18
               by_cases c19 : ((rd_L6 (rd_L7 l0_8 x3_2) x4_3).length : Int) > 20
               ·rw [if_pos c19] at H
                have c19b0 : decide (20 < ((rd_L6 (rd_L7 l0_8 x3_2) x4_3).length : Int)) = true := decide_eq_true c19
                have c19b1 : decide (20 < (rd_L6 (rd_L7 l0_8 x3_2) x4_3).length) = true := decide_eq_true (by omega)
                clear c19
                obtain rfl := Option.some.inj H
                have hcz20_0 : wr.cell? ⟨gb235, 0, none⟩ = some (.int .i64 a0_0) := (blk_cell BK235.out 0).trans rfl
                have hcz20_1 : wr.cell? ⟨gb235, 1, none⟩ = some (.int .i64 a0_1) := (blk_cell BK235.out 1).trans rfl
                have hcz20_2 : wr.cell? ⟨gb235, 2, none⟩ = some (.int .i64 a0_2) := (blk_cell BK235.out 2).trans rfl
                have hcz20_3 : wr.cell? ⟨gb235, 3, none⟩ = some (.int .i64 a0_3) := (blk_cell BK235.out 3).trans rfl
                have hcz20_4 : wr.cell? ⟨gb235, 4, none⟩ = some (.int .i64 a0_4) := (blk_cell BK235.out 4).trans rfl
                have hcz20_5 : wr.cell? ⟨gb235, 5, none⟩ = some (.int .i64 a0_5) := (blk_cell BK235.out 5).trans rfl
                have hcz20_6 : wr.cell? ⟨gb235, 6, none⟩ = some (.slice A0_6 l0_6.length c0_6) := (blk_cell BK235.out 6).trans rfl
                have hcz20_7 : wr.cell? ⟨gb235, 7, none⟩ = some (.slice A0_7 l0_7.length c0_7) := (blk_cell BK235.out 7).trans rfl
                have hcz20_8 : wr.cell? ⟨gb235, 8, none⟩ = some (.slice (some ad236) l0_8.length c0_8) := (blk_cell BK235.out 8).trans rfl
                have hfz20_0 := blk_frozen BK235.out 0
                have hfz20_1 := blk_frozen BK235.out 1
                have hfz20_2 := blk_frozen BK235.out 2
                have hfz20_3 := blk_frozen BK235.out 3
                have hfz20_4 := blk_frozen BK235.out 4
                have hfz20_5 := blk_frozen BK235.out 5
                have hfz20_6 := blk_frozen BK235.out 6
                have hfz20_7 := blk_frozen BK235.out 7
                have hfz20_8 := blk_frozen BK235.out 8
                have p237 : 0 ≤ (x3_2 : Int) := of_decide_eq_true (by first | (with_reducible assumption) | assumption)
                have q237 : x3_2 < (l0_8.length : Int) := of_decide_eq_true (by first | (with_reducible assumption) | assumption)
                obtain ⟨ad237, A237_0, c237_0, e237, hx237_0, hl237_0, hi237_0⟩ := at_L7 HR0_8.out x3_2 p237 q237
                obtain rfl : ad236 = ad237 := (by injection e237)
                replace hx237_0 := (HB.out.cell (World.block_lt_of_cell? w _ hx237_0)).trans hx237_0
                have HR237_0 := Aside0.mk hi237_0
                have HC237_0 := Aside0.mk hl237_0
                clear hi237_0 hl237_0
                replace p237 := eq_true p237
                replace q237 := eq_true q237
                have p238 : 0 ≤ (x3_2 : Int) := of_decide_eq_true (by first | (with_reducible assumption) | assumption)
                have q238 : x3_2 < (l0_8.length : Int) := of_decide_eq_true (by first | (with_reducible assumption) | assumption)
                obtain ⟨ad238, A238_0, c238_0, e238, hx238_0, hl238_0, hi238_0⟩ := at_L7 HR0_8.out x3_2 p238 q238
                obtain rfl : ad236 = ad238 := (by injection e238)
                replace hx238_0 := (HB.out.cell (World.block_lt_of_cell? w _ hx238_0)).trans hx238_0
                have HR238_0 := Aside0.mk hi238_0
                have HC238_0 := Aside0.mk hl238_0
                clear hi238_0 hl238_0
                replace p238 := eq_true p238
                replace q238 := eq_true q238
                have ea_ := Option.some.inj (hx237_0.symm.trans hx238_0)
                injection ea_ with ea_ en_ ec_
                subst ea_
                subst ec_
                clear en_
                have p239 : 0 ≤ (x4_3 : Int) := of_decide_eq_true (by first | (with_reducible assumption) | assumption)
                have q239 : x4_3 < ((rd_L7 l0_8 x3_2).length : Int) := of_decide_eq_true (by first | (with_reducible assumption) | assumption)
                obtain ⟨ad239, A239_0, c239_0, e239, hx239_0, hl239_0, hi239_0⟩ := at_L6 HR238_0.out x4_3 p239 q239
                cases e239
                replace hx239_0 := (HB.out.cell (World.block_lt_of_cell? w _ hx239_0)).trans hx239_0
                have HR239_0 := Aside0.mk hi239_0
                have HC239_0 := Aside0.mk hl239_0
                clear hi239_0 hl239_0
                replace p239 := eq_true p239
                replace q239 := eq_true q239
                go_wp2
                go_ret
                exact ⟨by first | rfl | (simp [errW_none, errW_some] <;> rfl) | (simp [*, errW_none, errW_some] <;> rfl), by repeat (first | (with_reducible first | exact HB.out | apply below_alloc | apply pw_below_drewN | apply below_drew1 | refine below_set ?_ GE235.out) | exact HB.out)⟩
               ·rw [if_neg c19] at H
                have c19b0 : decide (20 < ((rd_L6 (rd_L7 l0_8 x3_2) x4_3).length : Int)) = false := decide_eq_false c19
                have c19b1 : decide (20 < (rd_L6 (rd_L7 l0_8 x3_2) x4_3).length) = false := decide_eq_false (by omega)
                clear c19
                have H' := Aside0.mk H
                clear H
                have hcz21_0 : wr.cell? ⟨gb235, 0, none⟩ = some (.int .i64 a0_0) := (blk_cell BK235.out 0).trans rfl
                have hcz21_1 : wr.cell? ⟨gb235, 1, none⟩ = some (.int .i64 a0_1) := (blk_cell BK235.out 1).trans rfl
                have hcz21_2 : wr.cell? ⟨gb235, 2, none⟩ = some (.int .i64 a0_2) := (blk_cell BK235.out 2).trans rfl
                have hcz21_3 : wr.cell? ⟨gb235, 3, none⟩ = some (.int .i64 a0_3) := (blk_cell BK235.out 3).trans rfl
                have hcz21_4 : wr.cell? ⟨gb235, 4, none⟩ = some (.int .i64 a0_4) := (blk_cell BK235.out 4).trans rfl
                have hcz21_5 : wr.cell? ⟨gb235, 5, none⟩ = some (.int .i64 a0_5) := (blk_cell BK235.out 5).trans rfl
                have hcz21_6 : wr.cell? ⟨gb235, 6, none⟩ = some (.slice A0_6 l0_6.length c0_6) := (blk_cell BK235.out 6).trans rfl
                have hcz21_7 : wr.cell? ⟨gb235, 7, none⟩ = some (.slice A0_7 l0_7.length c0_7) := (blk_cell BK235.out 7).trans rfl
                have hcz21_8 : wr.cell? ⟨gb235, 8, none⟩ = some (.slice (some ad236) l0_8.length c0_8) := (blk_cell BK235.out 8).trans rfl
                have hfz21_0 := blk_frozen BK235.out 0
                have hfz21_1 := blk_frozen BK235.out 1
                have hfz21_2 := blk_frozen BK235.out 2
                have hfz21_3 := blk_frozen BK235.out 3
                have hfz21_4 := blk_frozen BK235.out 4
                have hfz21_5 := blk_frozen BK235.out 5
                have hfz21_6 := blk_frozen BK235.out 6
                have hfz21_7 := blk_frozen BK235.out 7
                have hfz21_8 := blk_frozen BK235.out 8
                have p237 : 0 ≤ (x3_2 : Int) := of_decide_eq_true (by first | (with_reducible assumption) | assumption)
                have q237 : x3_2 < (l0_8.length : Int) := of_decide_eq_true (by first | (with_reducible assumption) | assumption)
                obtain ⟨ad237, A237_0, c237_0, e237, hx237_0, hl237_0, hi237_0⟩ := at_L7 HR0_8.out x3_2 p237 q237
                obtain rfl : ad236 = ad237 := (by injection e237)
                replace hx237_0 := (HB.out.cell (World.block_lt_of_cell? w _ hx237_0)).trans hx237_0
                have HR237_0 := Aside0.mk hi237_0
                have HC237_0 := Aside0.mk hl237_0
                clear hi237_0 hl237_0
                replace p237 := eq_true p237
                replace q237 := eq_true q237
                have p238 : 0 ≤ (x3_2 : Int) := of_decide_eq_true (by first | (with_reducible assumption) | assumption)
                have q238 : x3_2 < (l0_8.length : Int) := of_decide_eq_true (by first | (with_reducible assumption) | assumption)
                obtain ⟨ad238, A238_0, c238_0, e238, hx238_0, hl238_0, hi238_0⟩ := at_L7 HR0_8.out x3_2 p238 q238
                obtain rfl : ad236 = ad238 := (by injection e238)
                replace hx238_0 := (HB.out.cell (World.block_lt_of_cell? w _ hx238_0)).trans hx238_0
                have HR238_0 := Aside0.mk hi238_0
                have HC238_0 := Aside0.mk hl238_0
                clear hi238_0 hl238_0
                replace p238 := eq_true p238
                replace q238 := eq_true q238
                have ea_ := Option.some.inj (hx237_0.symm.trans hx238_0)
                injection ea_ with ea_ en_ ec_
                subst ea_
                subst ec_
                clear en_
                have p239 : 0 ≤ (x4_3 : Int) := of_decide_eq_true (by first | (with_reducible assumption) | assumption)
                have q239 : x4_3 < ((rd_L7 l0_8 x3_2).length : Int) := of_decide_eq_true (by first | (with_reducible assumption) | assumption)
                obtain ⟨ad239, A239_0, c239_0, e239, hx239_0, hl239_0, hi239_0⟩ := at_L6 HR238_0.out x4_3 p239 q239
                cases e239
                replace hx239_0 := (HB.out.cell (World.block_lt_of_cell? w _ hx239_0)).trans hx239_0
                have HR239_0 := Aside0.mk hi239_0
                have HC239_0 := Aside0.mk hl239_0
                clear hi239_0 hl239_0
                replace p239 := eq_true p239
                replace q239 := eq_true q239
                go_wp2
                go_roundg k3
                case measure => have := HJ1.out; have := HK2.out; have := HK3.out; omega
                case rel => exact ⟨(wrap64 (x4_3 + 1)), (by first | rfl | (simp; done) | (simp [*]; done)), H', ⟨by have := HJ1.out; have := HK2.out; have := HK3.out; omega⟩, ⟨by (with_reducible repeat (first | refine blk_drewN ?_ _ | refine blk_drew ?_ | refine blk_alloc ?_ _)); exact BK235.out⟩, ⟨by repeat (first | (with_reducible first | exact HB.out | apply below_alloc | apply pw_below_drewN | apply below_drew1 | refine below_set ?_ GE235.out) | exact HB.out)⟩⟩
              ·rw [if_neg c18] at H
               exact absurd H (by simp)
             ·rw [if_neg c17] at H
              have c17b0 : decide (x4_3 < ((rd_L7 l0_8 x3_2).length : Int)) = false := decide_eq_false c17
              clear c17
              have H' := Aside0.mk H
              clear H
              have hcz22_0 : wr.cell? ⟨gb235, 0, none⟩ = some (.int .i64 a0_0) := (blk_cell BK235.out 0).trans rfl
              have hcz22_1 : wr.cell? ⟨gb235, 1, none⟩ = some (.int .i64 a0_1) := (blk_cell BK235.out 1).trans rfl
              have hcz22_2 : wr.cell? ⟨gb235, 2, none⟩ = some (.int .i64 a0_2) := (blk_cell BK235.out 2).trans rfl
              have hcz22_3 : wr.cell? ⟨gb235, 3, none⟩ = some (.int .i64 a0_3) := (blk_cell BK235.out 3).trans rfl
              have hcz22_4 : wr.cell? ⟨gb235, 4, none⟩ = some (.int .i64 a0_4) := (blk_cell BK235.out 4).trans rfl
              have hcz22_5 : wr.cell? ⟨gb235, 5, none⟩ = some (.int .i64 a0_5) := (blk_cell BK235.out 5).trans rfl
              have hcz22_6 : wr.cell? ⟨gb235, 6, none⟩ = some (.slice A0_6 l0_6.length c0_6) := (blk_cell BK235.out 6).trans rfl
              have hcz22_7 : wr.cell? ⟨gb235, 7, none⟩ = some (.slice A0_7 l0_7.length c0_7) := (blk_cell BK235.out 7).trans rfl
              have hcz22_8 : wr.cell? ⟨gb235, 8, none⟩ = some (.slice (some ad236) l0_8.length c0_8) := (blk_cell BK235.out 8).trans rfl
              have hfz22_0 := blk_frozen BK235.out 0
              have hfz22_1 := blk_frozen BK235.out 1
              have hfz22_2 := blk_frozen BK235.out 2
              have hfz22_3 := blk_frozen BK235.out 3
              have hfz22_4 := blk_frozen BK235.out 4
              have hfz22_5 := blk_frozen BK235.out 5
              have hfz22_6 := blk_frozen BK235.out 6
              have hfz22_7 := blk_frozen BK235.out 7
              have hfz22_8 := blk_frozen BK235.out 8
              have p237 : 0 ≤ (x3_2 : Int) := of_decide_eq_true (by first | (with_reducible assumption) | assumption)
              have q237 : x3_2 < (l0_8.length : Int) := of_decide_eq_true (by first | (with_reducible assumption) | assumption)
              obtain ⟨ad237, A237_0, c237_0, e237, hx237_0, hl237_0, hi237_0⟩ := at_L7 HR0_8.out x3_2 p237 q237
              obtain rfl : ad236 = ad237 := (by injection e237)
              replace hx237_0 := (HB.out.cell (World.block_lt_of_cell? w _ hx237_0)).trans hx237_0
              have HR237_0 := Aside0.mk hi237_0
              have HC237_0 := Aside0.mk hl237_0
              clear hi237_0 hl237_0
              replace p237 := eq_true p237
              replace q237 := eq_true q237
              go_wp2
              go_roundg k3
              case measure => have := HJ1.out; have := HK2.out; have := HK3.out; omega
              case rel => exact ⟨(wrap64 (x3_2 + 1)), (by first | rfl | (simp; done) | (simp [*]; done)), H', ⟨by have := HJ1.out; have := HK2.out; have := HK3.out; omega⟩, ⟨by (with_reducible repeat (first | refine blk_drewN ?_ _ | refine blk_drew ?_ | refine blk_alloc ?_ _)); exact BK235.out⟩, ⟨by repeat (first | (with_reducible first | exact HB.out | apply below_alloc | apply pw_below_drewN | apply below_drew1 | refine below_set ?_ GE235.out) | exact HB.out)⟩⟩
            ·rw [if_neg c16] at H
             exact absurd H (by simp)
           ·rw [if_neg c15] at H
            exact absurd H (by simp)
       ·rw [if_neg c11] at H
        exact absurd H (by simp)
      ·rw [if_neg c10] at H
       have c10b0 : decide (x3_2 < (l0_8.length : Int)) = false := decide_eq_false c10
       clear c10
       obtain rfl := Option.some.inj H
       have hcz23_0 : wr.cell? ⟨gb235, 0, none⟩ = some (.int .i64 a0_0) := (blk_cell BK235.out 0).trans rfl
       have hcz23_1 : wr.cell? ⟨gb235, 1, none⟩ = some (.int .i64 a0_1) := (blk_cell BK235.out 1).trans rfl
       have hcz23_2 : wr.cell? ⟨gb235, 2, none⟩ = some (.int .i64 a0_2) := (blk_cell BK235.out 2).trans rfl
       have hcz23_3 : wr.cell? ⟨gb235, 3, none⟩ = some (.int .i64 a0_3) := (blk_cell BK235.out 3).trans rfl
       have hcz23_4 : wr.cell? ⟨gb235, 4, none⟩ = some (.int .i64 a0_4) := (blk_cell BK235.out 4).trans rfl
       have hcz23_5 : wr.cell? ⟨gb235, 5, none⟩ = some (.int .i64 a0_5) := (blk_cell BK235.out 5).trans rfl
       have hcz23_6 : wr.cell? ⟨gb235, 6, none⟩ = some (.slice A0_6 l0_6.length c0_6) := (blk_cell BK235.out 6).trans rfl
       have hcz23_7 : wr.cell? ⟨gb235, 7, none⟩ = some (.slice A0_7 l0_7.length c0_7) := (blk_cell BK235.out 7).trans rfl
       have hcz23_8 : wr.cell? ⟨gb235, 8, none⟩ = some (.slice A0_8 l0_8.length c0_8) := (blk_cell BK235.out 8).trans rfl
       have hfz23_0 := blk_frozen BK235.out 0
       have hfz23_1 := blk_frozen BK235.out 1
       have hfz23_2 := blk_frozen BK235.out 2
       have hfz23_3 := blk_frozen BK235.out 3
       have hfz23_4 := blk_frozen BK235.out 4
       have hfz23_5 := blk_frozen BK235.out 5
       have hfz23_6 := blk_frozen BK235.out 6
       have hfz23_7 := blk_frozen BK235.out 7
       have hfz23_8 := blk_frozen BK235.out 8
       go_wp2
       go_ret
       exact ⟨by first | rfl | (simp [errW_none, errW_some] <;> rfl) | (simp [*, errW_none, errW_some] <;> rfl), by repeat (first | (with_reducible first | exact HB.out | apply below_alloc | apply pw_below_drewN | apply below_drew1 | refine below_set ?_ GE235.out) | exact HB.out)⟩
def quarrellaw20_great.f (k : Nat) (a0_0 : Int) (a0_1 : Int) (a0_2 : Int) (a0_3 : Int) (a0_4 : Int) (a0_5 : Int) (l0_6 : List Int) (l0_7 : List Int) (l0_8 : List (List (List (S80)))) (l0_9 : List Int) : Option (Bool) := if (l0_9.length : Int) > 1000 then (some true) else (if (l0_7.length : Int) > 1000 then (some true) else ((quarrellaw16_Great.f k 0 0 0 0 0 0 l0_6 ([] : List Int) l0_8).bind fun t241 => (some (decide (t241 > 0)))))
theorem quarrellaw20_great.mono : ∀ a0 a1 a2 a3 a4 a5 a6 a7 a8 a9 k, LeO (quarrellaw20_great.f k a0 a1 a2 a3 a4 a5 a6 a7 a8 a9) (quarrellaw20_great.f (k + 1) a0 a1 a2 a3 a4 a5 a6 a7 a8 a9) := by
  intro a0 a1 a2 a3 a4 a5 a6 a7 a8 a9 k
  unfold quarrellaw20_great.f
  repeat' first
      | (with_reducible exact quarrellaw16_Great.mono _ _ _ _ _ _ _ _ _ _)
      | (with_reducible exact LeO.refl _)
      | (with_reducible exact LeO.none _)
      | (with_reducible refine LeO.ite ?_ ?_)
      | (with_reducible refine LeO.bind ?_ (fun _ => ?_))
      | exact quarrellaw16_Great.mono _ _ _ _ _ _ _ _ _ _
      | exact LeO.none _
      | refine LeO.ite ?_ ?_
      | refine LeO.bind ?_ (fun _ => ?_)
set_option maxHeartbeats 8000000 in
set_option maxRecDepth 100000 in
theorem quarrellaw20_great.calls (k : Nat) (a0_0 : Int) (a0_1 : Int) (a0_2 : Int) (a0_3 : Int) (a0_4 : Int) (a0_5 : Int) (A0_6 : Option Addr) (c0_6 : Nat) (l0_6 : List Int) (A0_7 : Option Addr) (c0_7 : Nat) (l0_7 : List Int) (A0_8 : Option Addr) (c0_8 : Nat) (l0_8 : List (List (List (S80)))) (A0_9 : Option Addr) (c0_9 : Nat) (l0_9 : List Int) (r : Bool) (w : World) (hr0_6 : Kd.C (Kd.int .i64) w A0_6 l0_6.length l0_6) (hc0_6 : l0_6.length ≤ c0_6) (hr0_7 : Kd.C (Kd.int .u8) w A0_7 l0_7.length l0_7) (hc0_7 : l0_7.length ≤ c0_7) (hr0_8 : Kd.C (Kd.slice 61 (Kd.slice 80 k80)) w A0_8 l0_8.length l0_8) (hc0_8 : l0_8.length ≤ c0_8) (hr0_9 : Kd.C (Kd.int .i64) w A0_9 l0_9.length l0_9) (hc0_9 : l0_9.length ≤ c0_9) (h : quarrellaw20_great.f k a0_0 a0_1 a0_2 a0_3 a0_4 a0_5 l0_6 l0_7 l0_8 l0_9 = some r) :
  Calls Try.prog 13 #[.agg #[.int .i64 a0_0, .int .i64 a0_1, .int .i64 a0_2, .int .i64 a0_3, .int .i64 a0_4, .int .i64 a0_5, .slice A0_6 l0_6.length c0_6, .slice A0_7 l0_7.length c0_7, .slice A0_8 l0_8.length c0_8, .slice A0_9 l0_9.length c0_9]] w fun e w' => e = .returned (.bool r) ∧ Below w.heap.size w w' := by
 have hu34 := Try.underlying34
 have hu68 := Try.underlying68
 have HR0_6 := Aside0.mk hr0_6
 have HC0_6 := Aside0.mk hc0_6
 clear hr0_6 hc0_6
 have HR0_7 := Aside0.mk hr0_7
 have HC0_7 := Aside0.mk hc0_7
 clear hr0_7 hc0_7
 have HR0_8 := Aside0.mk hr0_8
 have HC0_8 := Aside0.mk hc0_8
 clear hr0_8 hc0_8
 have HR0_9 := Aside0.mk hr0_9
 have HC0_9 := Aside0.mk hc0_9
 clear hr0_9 hc0_9
 have HB := Aside0.mk (Below.refl w.heap.size w)
 have H : (if (l0_9.length : Int) > 1000 then (some true) else (if (l0_7.length : Int) > 1000 then (some true) else ((quarrellaw16_Great.f k 0 0 0 0 0 0 l0_6 ([] : List Int) l0_8).bind fun t241 => (some (decide (t241 > 0)))))) = some r := h
 clear h
 by_cases c2 : (l0_9.length : Int) > 1000
 ·rw [if_pos c2] at H
  have c2b0 : decide (1000 < (l0_9.length : Int)) = true := decide_eq_true c2
  have c2b1 : decide (1000 < l0_9.length) = true := decide_eq_true (by omega)
  clear c2
  obtain rfl := Option.some.inj H
  go_enter Try.func13, Try.ntmps13
  go_wp2_with (first | ((with_reducible refine gate_dst (N := 1) rfl ?_); (try (refine gate_guard (by rfl) ?_; dsimp only)); refine box_event ?hg (N := 1) ?hd (cs := #[.int .i64 a0_0, .int .i64 a0_1, .int .i64 a0_2, .int .i64 a0_3, .int .i64 a0_4, .int .i64 a0_5, .slice A0_6 l0_6.length c0_6, .slice A0_7 l0_7.length c0_7, .slice A0_8 l0_8.length c0_8, .slice A0_9 l0_9.length c0_9]) (t := 34) ?hr ?_; (case hd => rfl); (case hg => rfl); (case hr => first | (go_simp; done) | (go_simp; rfl)); intro gb240 hg w3 hbox hb; have n0_ := Aside0.mk (below_step (by repeat (first | (with_reducible first | exact HB.out | apply below_alloc | apply pw_below_drewN | apply below_drew1) | exact HB.out)) hb); have n1_ := Aside0.mk (hbox); have n2_ := Aside0.mk ((by rw [hg]; exact (below_size (by repeat (first | (with_reducible first | exact HB.out | apply below_alloc | apply pw_below_drewN | apply below_drew1) | exact HB.out))) : w.heap.size ≤ gb240)); have n3_ := Aside0.mk ((by rw [hg]; exact (below_size (by repeat (first | (with_reducible first | exact HB.out | apply below_alloc | apply pw_below_drewN | apply below_drew1) | exact HB.out))) : w.heap.size ≤ gb240)); clear HB; have HB := n0_; have BK240 := n1_; have GW240 := n2_; have GE240 := n3_; clear n0_ n1_ n2_ n3_; clear hb hbox hg; have hcz4_0 : w3.cell? ⟨gb240, 0, none⟩ = some (.int .i64 a0_0) := (blk_cell BK240.out 0).trans rfl; have hcz4_1 : w3.cell? ⟨gb240, 1, none⟩ = some (.int .i64 a0_1) := (blk_cell BK240.out 1).trans rfl; have hcz4_2 : w3.cell? ⟨gb240, 2, none⟩ = some (.int .i64 a0_2) := (blk_cell BK240.out 2).trans rfl; have hcz4_3 : w3.cell? ⟨gb240, 3, none⟩ = some (.int .i64 a0_3) := (blk_cell BK240.out 3).trans rfl; have hcz4_4 : w3.cell? ⟨gb240, 4, none⟩ = some (.int .i64 a0_4) := (blk_cell BK240.out 4).trans rfl; have hcz4_5 : w3.cell? ⟨gb240, 5, none⟩ = some (.int .i64 a0_5) := (blk_cell BK240.out 5).trans rfl; have hcz4_6 : w3.cell? ⟨gb240, 6, none⟩ = some (.slice A0_6 l0_6.length c0_6) := (blk_cell BK240.out 6).trans rfl; have hcz4_7 : w3.cell? ⟨gb240, 7, none⟩ = some (.slice A0_7 l0_7.length c0_7) := (blk_cell BK240.out 7).trans rfl; have hcz4_8 : w3.cell? ⟨gb240, 8, none⟩ = some (.slice A0_8 l0_8.length c0_8) := (blk_cell BK240.out 8).trans rfl; have hcz4_9 : w3.cell? ⟨gb240, 9, none⟩ = some (.slice A0_9 l0_9.length c0_9) := (blk_cell BK240.out 9).trans rfl; have hfz4_0 := blk_frozen BK240.out 0; have hfz4_1 := blk_frozen BK240.out 1; have hfz4_2 := blk_frozen BK240.out 2; have hfz4_3 := blk_frozen BK240.out 3; have hfz4_4 := blk_frozen BK240.out 4; have hfz4_5 := blk_frozen BK240.out 5; have hfz4_6 := blk_frozen BK240.out 6; have hfz4_7 := blk_frozen BK240.out 7; have hfz4_8 := blk_frozen BK240.out 8; have hfz4_9 := blk_frozen BK240.out 9))
  go_ret
  exact ⟨by first | rfl | (simp [errW_none, errW_some] <;> rfl) | (simp [*, errW_none, errW_some] <;> rfl), by repeat (first | (with_reducible first | exact HB.out | apply below_alloc | apply pw_below_drewN | apply below_drew1 | refine below_set ?_ GE240.out) | exact HB.out)⟩
 ·rw [if_neg c2] at H
  have c2b0 : decide (1000 < (l0_9.length : Int)) = false := decide_eq_false c2
  have c2b1 : decide (1000 < l0_9.length) = false := decide_eq_false (by omega)
  clear c2
  by_cases c5 : (l0_7.length : Int) > 1000
  ·rw [if_pos c5] at H
   have c5b0 : decide (1000 < (l0_7.length : Int)) = true := decide_eq_true c5
   have c5b1 : decide (1000 < l0_7.length) = true := decide_eq_true (by omega)
   clear c5
   obtain rfl := Option.some.inj H
   go_enter Try.func13, Try.ntmps13
   go_wp2_with (first | ((with_reducible refine gate_dst (N := 1) rfl ?_); (try (refine gate_guard (by rfl) ?_; dsimp only)); refine box_event ?hg (N := 1) ?hd (cs := #[.int .i64 a0_0, .int .i64 a0_1, .int .i64 a0_2, .int .i64 a0_3, .int .i64 a0_4, .int .i64 a0_5, .slice A0_6 l0_6.length c0_6, .slice A0_7 l0_7.length c0_7, .slice A0_8 l0_8.length c0_8, .slice A0_9 l0_9.length c0_9]) (t := 34) ?hr ?_; (case hd => rfl); (case hg => rfl); (case hr => first | (go_simp; done) | (go_simp; rfl)); intro gb240 hg w6 hbox hb; have n0_ := Aside0.mk (below_step (by repeat (first | (with_reducible first | exact HB.out | apply below_alloc | apply pw_below_drewN | apply below_drew1) | exact HB.out)) hb); have n1_ := Aside0.mk (hbox); have n2_ := Aside0.mk ((by rw [hg]; exact (below_size (by repeat (first | (with_reducible first | exact HB.out | apply below_alloc | apply pw_below_drewN | apply below_drew1) | exact HB.out))) : w.heap.size ≤ gb240)); have n3_ := Aside0.mk ((by rw [hg]; exact (below_size (by repeat (first | (with_reducible first | exact HB.out | apply below_alloc | apply pw_below_drewN | apply below_drew1) | exact HB.out))) : w.heap.size ≤ gb240)); clear HB; have HB := n0_; have BK240 := n1_; have GW240 := n2_; have GE240 := n3_; clear n0_ n1_ n2_ n3_; clear hb hbox hg; have hcz7_0 : w6.cell? ⟨gb240, 0, none⟩ = some (.int .i64 a0_0) := (blk_cell BK240.out 0).trans rfl; have hcz7_1 : w6.cell? ⟨gb240, 1, none⟩ = some (.int .i64 a0_1) := (blk_cell BK240.out 1).trans rfl; have hcz7_2 : w6.cell? ⟨gb240, 2, none⟩ = some (.int .i64 a0_2) := (blk_cell BK240.out 2).trans rfl; have hcz7_3 : w6.cell? ⟨gb240, 3, none⟩ = some (.int .i64 a0_3) := (blk_cell BK240.out 3).trans rfl; have hcz7_4 : w6.cell? ⟨gb240, 4, none⟩ = some (.int .i64 a0_4) := (blk_cell BK240.out 4).trans rfl; have hcz7_5 : w6.cell? ⟨gb240, 5, none⟩ = some (.int .i64 a0_5) := (blk_cell BK240.out 5).trans rfl; have hcz7_6 : w6.cell? ⟨gb240, 6, none⟩ = some (.slice A0_6 l0_6.length c0_6) := (blk_cell BK240.out 6).trans rfl; have hcz7_7 : w6.cell? ⟨gb240, 7, none⟩ = some (.slice A0_7 l0_7.length c0_7) := (blk_cell BK240.out 7).trans rfl; have hcz7_8 : w6.cell? ⟨gb240, 8, none⟩ = some (.slice A0_8 l0_8.length c0_8) := (blk_cell BK240.out 8).trans rfl; have hcz7_9 : w6.cell? ⟨gb240, 9, none⟩ = some (.slice A0_9 l0_9.length c0_9) := (blk_cell BK240.out 9).trans rfl; have hfz7_0 := blk_frozen BK240.out 0; have hfz7_1 := blk_frozen BK240.out 1; have hfz7_2 := blk_frozen BK240.out 2; have hfz7_3 := blk_frozen BK240.out 3; have hfz7_4 := blk_frozen BK240.out 4; have hfz7_5 := blk_frozen BK240.out 5; have hfz7_6 := blk_frozen BK240.out 6; have hfz7_7 := blk_frozen BK240.out 7; have hfz7_8 := blk_frozen BK240.out 8; have hfz7_9 := blk_frozen BK240.out 9))
   go_ret
   exact ⟨by first | rfl | (simp [errW_none, errW_some] <;> rfl) | (simp [*, errW_none, errW_some] <;> rfl), by repeat (first | (with_reducible first | exact HB.out | apply below_alloc | apply pw_below_drewN | apply below_drew1 | refine below_set ?_ GE240.out) | exact HB.out)⟩
  ·rw [if_neg c5] at H
   have c5b0 : decide (1000 < (l0_7.length : Int)) = false := decide_eq_false c5
   have c5b1 : decide (1000 < l0_7.length) = false := decide_eq_false (by omega)
   clear c5
   replace H := Option.bind_eq_some_iff.mp H
   obtain ⟨t241, A80, H⟩ := H
   replace H : (some (decide (t241 > 0))) = some r := H
   have A8 := Aside0.mk A80
   clear A80
   obtain rfl := Option.some.inj H
   go_enter Try.func13, Try.ntmps13
   go_wp2_with (first | ((with_reducible refine gate_dst (N := 1) rfl ?_); (try (refine gate_guard (by rfl) ?_; dsimp only)); refine box_event ?hg (N := 1) ?hd (cs := #[.int .i64 a0_0, .int .i64 a0_1, .int .i64 a0_2, .int .i64 a0_3, .int .i64 a0_4, .int .i64 a0_5, .slice A0_6 l0_6.length c0_6, .slice A0_7 l0_7.length c0_7, .slice A0_8 l0_8.length c0_8, .slice A0_9 l0_9.length c0_9]) (t := 34) ?hr ?_; (case hd => rfl); (case hg => rfl); (case hr => first | (go_simp; done) | (go_simp; rfl)); intro gb240 hg w9 hbox hb; have n0_ := Aside0.mk (below_step (by repeat (first | (with_reducible first | exact HB.out | apply below_alloc | apply pw_below_drewN | apply below_drew1) | exact HB.out)) hb); have n1_ := Aside0.mk (hbox); have n2_ := Aside0.mk ((by rw [hg]; exact (below_size (by repeat (first | (with_reducible first | exact HB.out | apply below_alloc | apply pw_below_drewN | apply below_drew1) | exact HB.out))) : w.heap.size ≤ gb240)); have n3_ := Aside0.mk ((by rw [hg]; exact (below_size (by repeat (first | (with_reducible first | exact HB.out | apply below_alloc | apply pw_below_drewN | apply below_drew1) | exact HB.out))) : w.heap.size ≤ gb240)); clear HB; have HB := n0_; have BK240 := n1_; have GW240 := n2_; have GE240 := n3_; clear n0_ n1_ n2_ n3_; clear hb hbox hg; have hcz10_0 : w9.cell? ⟨gb240, 0, none⟩ = some (.int .i64 a0_0) := (blk_cell BK240.out 0).trans rfl; have hcz10_1 : w9.cell? ⟨gb240, 1, none⟩ = some (.int .i64 a0_1) := (blk_cell BK240.out 1).trans rfl; have hcz10_2 : w9.cell? ⟨gb240, 2, none⟩ = some (.int .i64 a0_2) := (blk_cell BK240.out 2).trans rfl; have hcz10_3 : w9.cell? ⟨gb240, 3, none⟩ = some (.int .i64 a0_3) := (blk_cell BK240.out 3).trans rfl; have hcz10_4 : w9.cell? ⟨gb240, 4, none⟩ = some (.int .i64 a0_4) := (blk_cell BK240.out 4).trans rfl; have hcz10_5 : w9.cell? ⟨gb240, 5, none⟩ = some (.int .i64 a0_5) := (blk_cell BK240.out 5).trans rfl; have hcz10_6 : w9.cell? ⟨gb240, 6, none⟩ = some (.slice A0_6 l0_6.length c0_6) := (blk_cell BK240.out 6).trans rfl; have hcz10_7 : w9.cell? ⟨gb240, 7, none⟩ = some (.slice A0_7 l0_7.length c0_7) := (blk_cell BK240.out 7).trans rfl; have hcz10_8 : w9.cell? ⟨gb240, 8, none⟩ = some (.slice A0_8 l0_8.length c0_8) := (blk_cell BK240.out 8).trans rfl; have hcz10_9 : w9.cell? ⟨gb240, 9, none⟩ = some (.slice A0_9 l0_9.length c0_9) := (blk_cell BK240.out 9).trans rfl; have hfz10_0 := blk_frozen BK240.out 0; have hfz10_1 := blk_frozen BK240.out 1; have hfz10_2 := blk_frozen BK240.out 2; have hfz10_3 := blk_frozen BK240.out 3; have hfz10_4 := blk_frozen BK240.out 4; have hfz10_5 := blk_frozen BK240.out 5; have hfz10_6 := blk_frozen BK240.out 6; have hfz10_7 := blk_frozen BK240.out 7; have hfz10_8 := blk_frozen BK240.out 8; have hfz10_9 := blk_frozen BK240.out 9) | (go_at_call 30; (refine (quarrellaw16_Great.calls k 0 0 0 0 0 0 _ _ l0_6 _ _ ([] : List Int) _ _ l0_8 t241 _ ?side1 ?side2 ?side3 ?side4 ?side5 ?side6 A8.out).mono ?_); (case side1 => repeat (first | exact (Kd.C_below HR0_6.out HB.out) | (with_reducible refine Kd.C_alloc ?_ _) | (with_reducible refine Kd.C_drewN ?_ _) | (with_reducible refine Kd.C_drew ?_))); (case side2 => exact HC0_6.out); (case side3 => exact Kd.C_nil _ _); (case side4 => exact Nat.le_refl _); (case side5 => repeat (first | exact (Kd.C_below HR0_8.out HB.out) | (with_reducible refine Kd.C_alloc ?_ _) | (with_reducible refine Kd.C_drewN ?_ _) | (with_reducible refine Kd.C_drew ?_))); (case side6 => exact HC0_8.out); rintro e w11 ⟨rfl, hb⟩; have n0_ := Aside0.mk (blk_below (g := gb240) (o := .cells #[.int .i64 a0_0, .int .i64 a0_1, .int .i64 a0_2, .int .i64 a0_3, .int .i64 a0_4, .int .i64 a0_5, .slice A0_6 l0_6.length c0_6, .slice A0_7 l0_7.length c0_7, .slice A0_8 l0_8.length c0_8, .slice A0_9 l0_9.length c0_9] 34 (0, 0)) (by (with_reducible repeat (first | refine blk_drewN ?_ _ | refine blk_drew ?_ | refine blk_alloc ?_ _)); exact BK240.out) hb); have n1_ := Aside0.mk (below_step (by repeat (first | (with_reducible first | exact HB.out | apply below_alloc | apply pw_below_drewN | apply below_drew1 | refine below_set ?_ GE240.out) | exact HB.out)) hb); clear BK240; clear HB; have BK240 := n0_; have HB := n1_; clear n0_ n1_; (try clear hb); (try clear hb2); (try clear hk); (try clear hi)))
   go_ret
   exact ⟨by first | rfl | (simp [errW_none, errW_some] <;> rfl) | (simp [*, errW_none, errW_some] <;> rfl), by repeat (first | (with_reducible first | exact HB.out | apply below_alloc | apply pw_below_drewN | apply below_drew1 | refine below_set ?_ GE240.out) | exact HB.out)⟩
end Go.Proofs.Ythfkgnkojhocbaa.S
end
section
namespace Go.Proofs.Ythfkgnkojhocbaa.S
open Go Go.RowKit Go.Proofs.YthfkgnkojhocbaaW.PrintWords Go.Proofs.YthfkgnkojhocbaaW.PrintLast
set_option linter.unusedVariables false
set_option linter.unusedSimpArgs false
/-- The place of the first that may not be, or -1. -/
def idxN {α : Type} (p : α → Bool) (l : List α) : Int := match l.findIdx? (fun o => !(p o)) with | some i => (i : Int) | none => -1
theorem idxN_hit {α : Type} (p : α → Bool) (l : List α) (k : Nat) (hk : k < l.length) (h : p l[k] = false) (hb : ∀ j (hj : j < k), p (l[j]'(by omega)) = true) : idxN p l = k := by
  have : l.findIdx? (fun o => !(p o)) = some k := by
    rw [List.findIdx?_eq_some_iff_getElem]
    exact ⟨hk, by simp [h], fun j hj => by simp [hb j hj]⟩
  simp [idxN, this]
theorem idxN_miss {α : Type} (p : α → Bool) (l : List α) (hb : ∀ j (hj : j < l.length), p (l[j]'(by omega)) = true) : idxN p l = -1 := by
  have : l.findIdx? (fun o => !(p o)) = none := by
    rw [List.findIdx?_eq_none_iff]
    intro x hx
    obtain ⟨i, hi, rfl⟩ := List.getElem_of_mem hx
    simp [hb i hi]
  simp [idxN, this]
theorem idxN_all {α : Type} (p : α → Bool) (l : List α) : decide (0 ≤ idxN p l) = !(l.all p) := by
  unfold idxN
  split
  · rename_i i h
    rw [List.findIdx?_eq_some_iff_getElem] at h
    obtain ⟨hi, h1, _⟩ := h
    have : l.all p = false := by
      rw [List.all_eq_false]
      exact ⟨l[i], List.getElem_mem hi, by simpa using h1⟩
    simp [this]
  · rename_i h
    rw [List.findIdx?_eq_none_iff] at h
    have : l.all p = true := by
      rw [List.all_eq_true]
      intro x hx
      simpa using h x hx
    simp [this]
set_option maxHeartbeats 8000000 in
theorem in64.idx (p : Int → Bool) (B1 : Nat) (B2 : Nat) (A0 : Option Addr) (c0 : Nat) (l0 : List (Int)) (w : World) (hr0 : Kd.C (Kd.int .i64) w A0 l0.length l0) (hc : ∀ x ∈ l0, ∀ (W : World), Below w.heap.size w W → Calls Try.prog 48 #[.int .i64 x, .pointer (some ⟨B1, 0, none⟩), .pointer (some ⟨B2, 0, none⟩)] W fun e W' => e = .returned (.bool (!(p x))) ∧ Below W.heap.size W W') :
    Calls Try.prog 56 #[.slice A0 l0.length c0, .func (.func 48) #[] #[.pointer (some ⟨B1, 0, none⟩), .pointer (some ⟨B2, 0, none⟩)]] w fun e w' => e = .returned (.int .i64 (idxN p l0)) ∧ Below w.heap.size w w' := by
  have hmax : l0.length ≤ 9223372036854775807 := Kd.C_max hr0
  have HR := Aside0.mk hr0
  have HC := Aside0.mk hc
  clear hr0 hc
  go_enter Try.func56, Try.ntmps56
  go_wp2
  go_loopg [5, 8] l0.length (fun gg _ s8 wr => ∃ kk : Nat, kk ≤ l0.length ∧ l0.length - kk ≤ gg ∧ s8 = .int .i64 kk ∧ Aside0 (Below w.heap.size w wr) ∧ Aside0 (∀ j (hj : j < kk) (hl : j < l0.length), p l0[j] = true))
  case atStart => exact ⟨0, Nat.zero_le _, by omega, rfl, ⟨Below.refl _ w⟩, ⟨fun j hj => absurd hj (Nat.not_lt_zero _)⟩⟩
  case round =>
    obtain ⟨kk, hkk, hg, rfl, HB, A⟩ := hrel
    by_cases hlt : kk < l0.length
    · have hltz : (kk : Int) < (l0.length : Int) := by omega
      obtain ⟨ad, ea, h0⟩ := Kd.at_int HR.out (kk : Int) (by omega) (by omega)
      subst ea
      have hrd : rd l0 (kk : Int) = l0[kk] := by simp [rd, hlt]
      rw [hrd] at h0
      replace h0 := (HB.out.cell (World.block_lt_of_cell? w _ h0)).trans h0
      simp only [Int.toNat_natCast] at h0
      have hcall := HC.out l0[kk] (List.getElem_mem hlt) wr HB.out
      clear hrd
      generalize hx : l0[kk] = x at h0 hcall
      have X := Aside0.mk hx
      clear hx
      cases hq : p x with
      | true =>
        rw [hq] at hcall
        go_wp2_with (go_at_call 48; refine hcall.mono ?_; rintro e w' ⟨rfl, hb'⟩)
        go_roundg (l0.length - (kk + 1))
        case measure => omega
        case rel =>
          refine ⟨kk + 1, by omega, by omega, by go_num, ⟨below_step HB.out hb'⟩, ⟨fun j hj hl => ?_⟩⟩
          by_cases e : j = kk
          · subst e
            rw [X.out]; exact hq
          · exact A.out j (by omega) hl
      | false =>
        rw [hq] at hcall
        go_wp2_with (go_at_call 48; refine hcall.mono ?_; rintro e w' ⟨rfl, hb'⟩)
        go_ret
        refine ⟨?_, below_step HB.out hb'⟩
        rw [idxN_hit p l0 kk hlt (by rw [X.out]; exact hq) (fun j hj => A.out j hj (by omega))]; rfl
    · have hltz : ¬ (kk : Int) < (l0.length : Int) := by omega
      have : kk = l0.length := by omega
      subst this
      go_wp2
      go_ret
      refine ⟨?_, HB.out⟩
      rw [idxN_miss p l0 (fun j hj => A.out j hj hj)]; rfl
set_option maxHeartbeats 8000000 in
theorem in64.cont (p : Int → Bool) (B1 : Nat) (B2 : Nat) (A0 : Option Addr) (c0 : Nat) (l0 : List (Int)) (w : World) (hr0 : Kd.C (Kd.int .i64) w A0 l0.length l0) (hc : ∀ x ∈ l0, ∀ (W : World), Below w.heap.size w W → Calls Try.prog 48 #[.int .i64 x, .pointer (some ⟨B1, 0, none⟩), .pointer (some ⟨B2, 0, none⟩)] W fun e W' => e = .returned (.bool (!(p x))) ∧ Below W.heap.size W W') :
    Calls Try.prog 47 #[.slice A0 l0.length c0, .func (.func 48) #[] #[.pointer (some ⟨B1, 0, none⟩), .pointer (some ⟨B2, 0, none⟩)]] w fun e w' => e = .returned (.bool (!(l0.all p))) ∧ Below w.heap.size w w' := by
  have H := in64.idx p B1 B2 A0 c0 l0 w hr0 hc
  have E := Aside0.mk (idxN_all p l0)
  clear hr0 hc
  generalize idxN p l0 = r at H E
  go_enter Try.func47, Try.ntmps47
  go_wp2_with (go_at_call 56; refine H.mono ?_; rintro e w' ⟨rfl, hb'⟩)
  go_ret
  exact ⟨by rw [← E.out]; rfl, hb'⟩
set_option maxHeartbeats 8000000 in
theorem inT.idx (p : Int → Bool) (B1 : Nat) (B2 : Nat) (A0 : Option Addr) (c0 : Nat) (l0 : List (Int)) (w : World) (hr0 : Kd.C (Kd.int .i64) w A0 l0.length l0) (hc : ∀ x ∈ l0, ∀ (W : World), Below w.heap.size w W → Calls Try.prog 50 #[.int .i64 x, .pointer (some ⟨B1, 0, none⟩), .pointer (some ⟨B2, 0, none⟩)] W fun e W' => e = .returned (.bool (!(p x))) ∧ Below W.heap.size W W') :
    Calls Try.prog 57 #[.slice A0 l0.length c0, .func (.func 50) #[] #[.pointer (some ⟨B1, 0, none⟩), .pointer (some ⟨B2, 0, none⟩)]] w fun e w' => e = .returned (.int .i64 (idxN p l0)) ∧ Below w.heap.size w w' := by
  have hmax : l0.length ≤ 9223372036854775807 := Kd.C_max hr0
  have HR := Aside0.mk hr0
  have HC := Aside0.mk hc
  clear hr0 hc
  go_enter Try.func57, Try.ntmps57
  go_wp2
  go_loopg [5, 8] l0.length (fun gg _ s8 wr => ∃ kk : Nat, kk ≤ l0.length ∧ l0.length - kk ≤ gg ∧ s8 = .int .i64 kk ∧ Aside0 (Below w.heap.size w wr) ∧ Aside0 (∀ j (hj : j < kk) (hl : j < l0.length), p l0[j] = true))
  case atStart => exact ⟨0, Nat.zero_le _, by omega, rfl, ⟨Below.refl _ w⟩, ⟨fun j hj => absurd hj (Nat.not_lt_zero _)⟩⟩
  case round =>
    obtain ⟨kk, hkk, hg, rfl, HB, A⟩ := hrel
    by_cases hlt : kk < l0.length
    · have hltz : (kk : Int) < (l0.length : Int) := by omega
      obtain ⟨ad, ea, h0⟩ := Kd.at_int HR.out (kk : Int) (by omega) (by omega)
      subst ea
      have hrd : rd l0 (kk : Int) = l0[kk] := by simp [rd, hlt]
      rw [hrd] at h0
      replace h0 := (HB.out.cell (World.block_lt_of_cell? w _ h0)).trans h0
      simp only [Int.toNat_natCast] at h0
      have hcall := HC.out l0[kk] (List.getElem_mem hlt) wr HB.out
      clear hrd
      generalize hx : l0[kk] = x at h0 hcall
      have X := Aside0.mk hx
      clear hx
      cases hq : p x with
      | true =>
        rw [hq] at hcall
        go_wp2_with (go_at_call 50; refine hcall.mono ?_; rintro e w' ⟨rfl, hb'⟩)
        go_roundg (l0.length - (kk + 1))
        case measure => omega
        case rel =>
          refine ⟨kk + 1, by omega, by omega, by go_num, ⟨below_step HB.out hb'⟩, ⟨fun j hj hl => ?_⟩⟩
          by_cases e : j = kk
          · subst e
            rw [X.out]; exact hq
          · exact A.out j (by omega) hl
      | false =>
        rw [hq] at hcall
        go_wp2_with (go_at_call 50; refine hcall.mono ?_; rintro e w' ⟨rfl, hb'⟩)
        go_ret
        refine ⟨?_, below_step HB.out hb'⟩
        rw [idxN_hit p l0 kk hlt (by rw [X.out]; exact hq) (fun j hj => A.out j hj (by omega))]; rfl
    · have hltz : ¬ (kk : Int) < (l0.length : Int) := by omega
      have : kk = l0.length := by omega
      subst this
      go_wp2
      go_ret
      refine ⟨?_, HB.out⟩
      rw [idxN_miss p l0 (fun j hj => A.out j hj hj)]; rfl
set_option maxHeartbeats 8000000 in
theorem inT.cont (p : Int → Bool) (B1 : Nat) (B2 : Nat) (A0 : Option Addr) (c0 : Nat) (l0 : List (Int)) (w : World) (hr0 : Kd.C (Kd.int .i64) w A0 l0.length l0) (hc : ∀ x ∈ l0, ∀ (W : World), Below w.heap.size w W → Calls Try.prog 50 #[.int .i64 x, .pointer (some ⟨B1, 0, none⟩), .pointer (some ⟨B2, 0, none⟩)] W fun e W' => e = .returned (.bool (!(p x))) ∧ Below W.heap.size W W') :
    Calls Try.prog 49 #[.slice A0 l0.length c0, .func (.func 50) #[] #[.pointer (some ⟨B1, 0, none⟩), .pointer (some ⟨B2, 0, none⟩)]] w fun e w' => e = .returned (.bool (!(l0.all p))) ∧ Below w.heap.size w w' := by
  have H := inT.idx p B1 B2 A0 c0 l0 w hr0 hc
  have E := Aside0.mk (idxN_all p l0)
  clear hr0 hc
  generalize idxN p l0 = r at H E
  go_enter Try.func49, Try.ntmps49
  go_wp2_with (go_at_call 57; refine H.mono ?_; rintro e w' ⟨rfl, hb'⟩)
  go_ret
  exact ⟨by rw [← E.out]; rfl, hb'⟩
set_option maxHeartbeats 8000000 in
theorem inOps.idx (p : List S80 → Bool) (B1 : Nat) (A0 : Option Addr) (c0 : Nat) (l0 : List (List S80)) (w : World) (hr0 : Kd.C (Kd.slice 80 k80) w A0 l0.length l0) (hc : ∀ x ∈ l0, ∀ (A : Option Addr) (c : Nat) (W : World), Below w.heap.size w W → k80.C W A x.length x → x.length ≤ c → Calls Try.prog 53 #[.slice A x.length c, .pointer (some ⟨B1, 0, none⟩)] W fun e W' => e = .returned (.bool (!(p x))) ∧ Below W.heap.size W W') :
    Calls Try.prog 58 #[.slice A0 l0.length c0, .func (.func 53) #[] #[.pointer (some ⟨B1, 0, none⟩)]] w fun e w' => e = .returned (.int .i64 (idxN p l0)) ∧ Below w.heap.size w w' := by
  have hmax : l0.length ≤ 9223372036854775807 := Kd.C_max hr0
  have HR := Aside0.mk hr0
  have HC := Aside0.mk hc
  clear hr0 hc
  go_enter Try.func58, Try.ntmps58
  go_wp2
  go_loopg [5, 8] l0.length (fun gg _ s8 wr => ∃ kk : Nat, kk ≤ l0.length ∧ l0.length - kk ≤ gg ∧ s8 = .int .i64 kk ∧ Aside0 (Below w.heap.size w wr) ∧ Aside0 (∀ j (hj : j < kk) (hl : j < l0.length), p l0[j] = true))
  case atStart => exact ⟨0, Nat.zero_le _, by omega, rfl, ⟨Below.refl _ w⟩, ⟨fun j hj => absurd hj (Nat.not_lt_zero _)⟩⟩
  case round =>
    obtain ⟨kk, hkk, hg, rfl, HB, A⟩ := hrel
    by_cases hlt : kk < l0.length
    · have hltz : (kk : Int) < (l0.length : Int) := by omega
      obtain ⟨ad, c, ea, _, hK, hc0⟩ := Kd.C_get HR.out [] (kk : Int) (by omega) (by omega)
      have hq : ∀ j u, c[j]? = some u → w.cell? (ad.add ((kk : Int).toNat * 1 + j)) = some u := hc0
      obtain ⟨A1, c1, rfl, hl1, hC1⟩ := hK
      subst ea
      have h0 := hq 0 _ rfl
      rw [Nat.mul_one, Nat.add_zero] at h0
      have hrd : l0.getD (kk : Int).toNat [] = l0[kk] := by simp [hlt]
      rw [hrd] at h0 hl1 hC1
      clear hq hc0
      replace h0 := (HB.out.cell (World.block_lt_of_cell? w _ h0)).trans h0
      simp only [Int.toNat_natCast] at h0
      have hcall := HC.out l0[kk] (List.getElem_mem hlt) A1 c1 wr HB.out (Kd.C_below hC1 HB.out) hl1
      clear hrd hl1 hC1
      generalize hx : l0[kk] = x at h0 hcall
      have X := Aside0.mk hx
      clear hx
      cases hq : p x with
      | true =>
        rw [hq] at hcall
        go_wp2_with (go_at_call 53; refine hcall.mono ?_; rintro e w' ⟨rfl, hb'⟩)
        go_roundg (l0.length - (kk + 1))
        case measure => omega
        case rel =>
          refine ⟨kk + 1, by omega, by omega, by go_num, ⟨below_step HB.out hb'⟩, ⟨fun j hj hl => ?_⟩⟩
          by_cases e : j = kk
          · subst e
            rw [X.out]; exact hq
          · exact A.out j (by omega) hl
      | false =>
        rw [hq] at hcall
        go_wp2_with (go_at_call 53; refine hcall.mono ?_; rintro e w' ⟨rfl, hb'⟩)
        go_ret
        refine ⟨?_, below_step HB.out hb'⟩
        rw [idxN_hit p l0 kk hlt (by rw [X.out]; exact hq) (fun j hj => A.out j hj (by omega))]; rfl
    · have hltz : ¬ (kk : Int) < (l0.length : Int) := by omega
      have : kk = l0.length := by omega
      subst this
      go_wp2
      go_ret
      refine ⟨?_, HB.out⟩
      rw [idxN_miss p l0 (fun j hj => A.out j hj hj)]; rfl
set_option maxHeartbeats 8000000 in
theorem inOps.cont (p : List S80 → Bool) (B1 : Nat) (A0 : Option Addr) (c0 : Nat) (l0 : List (List S80)) (w : World) (hr0 : Kd.C (Kd.slice 80 k80) w A0 l0.length l0) (hc : ∀ x ∈ l0, ∀ (A : Option Addr) (c : Nat) (W : World), Below w.heap.size w W → k80.C W A x.length x → x.length ≤ c → Calls Try.prog 53 #[.slice A x.length c, .pointer (some ⟨B1, 0, none⟩)] W fun e W' => e = .returned (.bool (!(p x))) ∧ Below W.heap.size W W') :
    Calls Try.prog 52 #[.slice A0 l0.length c0, .func (.func 53) #[] #[.pointer (some ⟨B1, 0, none⟩)]] w fun e w' => e = .returned (.bool (!(l0.all p))) ∧ Below w.heap.size w w' := by
  have H := inOps.idx p B1 A0 c0 l0 w hr0 hc
  have E := Aside0.mk (idxN_all p l0)
  clear hr0 hc
  generalize idxN p l0 = r at H E
  go_enter Try.func52, Try.ntmps52
  go_wp2_with (go_at_call 58; refine H.mono ?_; rintro e w' ⟨rfl, hb'⟩)
  go_ret
  exact ⟨by rw [← E.out]; rfl, hb'⟩
set_option maxHeartbeats 8000000 in
theorem inTx.idx (p : List (List S80) → Bool) (B1 : Nat) (A0 : Option Addr) (c0 : Nat) (l0 : List (List (List S80))) (w : World) (hr0 : Kd.C (Kd.slice 61 (Kd.slice 80 k80)) w A0 l0.length l0) (hc : ∀ x ∈ l0, ∀ (A : Option Addr) (c : Nat) (W : World), Below w.heap.size w W → (Kd.slice 80 k80).C W A x.length x → x.length ≤ c → Calls Try.prog 38 #[.slice A x.length c, .pointer (some ⟨B1, 0, none⟩)] W fun e W' => e = .returned (.bool (!(p x))) ∧ Below W.heap.size W W') :
    Calls Try.prog 51 #[.slice A0 l0.length c0, .func (.func 38) #[] #[.pointer (some ⟨B1, 0, none⟩)]] w fun e w' => e = .returned (.int .i64 (idxN p l0)) ∧ Below w.heap.size w w' := by
  have hmax : l0.length ≤ 9223372036854775807 := Kd.C_max hr0
  have HR := Aside0.mk hr0
  have HC := Aside0.mk hc
  clear hr0 hc
  go_enter Try.func51, Try.ntmps51
  go_wp2
  go_loopg [5, 8] l0.length (fun gg _ s8 wr => ∃ kk : Nat, kk ≤ l0.length ∧ l0.length - kk ≤ gg ∧ s8 = .int .i64 kk ∧ Aside0 (Below w.heap.size w wr) ∧ Aside0 (∀ j (hj : j < kk) (hl : j < l0.length), p l0[j] = true))
  case atStart => exact ⟨0, Nat.zero_le _, by omega, rfl, ⟨Below.refl _ w⟩, ⟨fun j hj => absurd hj (Nat.not_lt_zero _)⟩⟩
  case round =>
    obtain ⟨kk, hkk, hg, rfl, HB, A⟩ := hrel
    by_cases hlt : kk < l0.length
    · have hltz : (kk : Int) < (l0.length : Int) := by omega
      obtain ⟨ad, c, ea, _, hK, hc0⟩ := Kd.C_get HR.out [] (kk : Int) (by omega) (by omega)
      have hq : ∀ j u, c[j]? = some u → w.cell? (ad.add ((kk : Int).toNat * 1 + j)) = some u := hc0
      obtain ⟨A1, c1, rfl, hl1, hC1⟩ := hK
      subst ea
      have h0 := hq 0 _ rfl
      rw [Nat.mul_one, Nat.add_zero] at h0
      have hrd : l0.getD (kk : Int).toNat [] = l0[kk] := by simp [hlt]
      rw [hrd] at h0 hl1 hC1
      clear hq hc0
      replace h0 := (HB.out.cell (World.block_lt_of_cell? w _ h0)).trans h0
      simp only [Int.toNat_natCast] at h0
      have hcall := HC.out l0[kk] (List.getElem_mem hlt) A1 c1 wr HB.out (Kd.C_below hC1 HB.out) hl1
      clear hrd hl1 hC1
      generalize hx : l0[kk] = x at h0 hcall
      have X := Aside0.mk hx
      clear hx
      cases hq : p x with
      | true =>
        rw [hq] at hcall
        go_wp2_with (go_at_call 38; refine hcall.mono ?_; rintro e w' ⟨rfl, hb'⟩)
        go_roundg (l0.length - (kk + 1))
        case measure => omega
        case rel =>
          refine ⟨kk + 1, by omega, by omega, by go_num, ⟨below_step HB.out hb'⟩, ⟨fun j hj hl => ?_⟩⟩
          by_cases e : j = kk
          · subst e
            rw [X.out]; exact hq
          · exact A.out j (by omega) hl
      | false =>
        rw [hq] at hcall
        go_wp2_with (go_at_call 38; refine hcall.mono ?_; rintro e w' ⟨rfl, hb'⟩)
        go_ret
        refine ⟨?_, below_step HB.out hb'⟩
        rw [idxN_hit p l0 kk hlt (by rw [X.out]; exact hq) (fun j hj => A.out j hj (by omega))]; rfl
    · have hltz : ¬ (kk : Int) < (l0.length : Int) := by omega
      have : kk = l0.length := by omega
      subst this
      go_wp2
      go_ret
      refine ⟨?_, HB.out⟩
      rw [idxN_miss p l0 (fun j hj => A.out j hj hj)]; rfl
set_option maxHeartbeats 8000000 in
theorem inTx.cont (p : List (List S80) → Bool) (B1 : Nat) (A0 : Option Addr) (c0 : Nat) (l0 : List (List (List S80))) (w : World) (hr0 : Kd.C (Kd.slice 61 (Kd.slice 80 k80)) w A0 l0.length l0) (hc : ∀ x ∈ l0, ∀ (A : Option Addr) (c : Nat) (W : World), Below w.heap.size w W → (Kd.slice 80 k80).C W A x.length x → x.length ≤ c → Calls Try.prog 38 #[.slice A x.length c, .pointer (some ⟨B1, 0, none⟩)] W fun e W' => e = .returned (.bool (!(p x))) ∧ Below W.heap.size W W') :
    Calls Try.prog 37 #[.slice A0 l0.length c0, .func (.func 38) #[] #[.pointer (some ⟨B1, 0, none⟩)]] w fun e w' => e = .returned (.bool (!(l0.all p))) ∧ Below w.heap.size w w' := by
  have H := inTx.idx p B1 A0 c0 l0 w hr0 hc
  have E := Aside0.mk (idxN_all p l0)
  clear hr0 hc
  generalize idxN p l0 = r at H E
  go_enter Try.func37, Try.ntmps37
  go_wp2_with (go_at_call 51; refine H.mono ?_; rintro e w' ⟨rfl, hb'⟩)
  go_ret
  exact ⟨by rw [← E.out]; rfl, hb'⟩
/-- Is a number from a least to a most one? -/
def small64.in (a b x : Int) : Bool := decide (a ≤ x) && decide (x ≤ b)
set_option maxHeartbeats 8000000 in
theorem small64.clo (a b x : Int) (B1 B2 : Nat) (w : World) (h1 : w.cell? ⟨B1, 0, none⟩ = some (.int .i64 a)) (h2 : w.cell? ⟨B2, 0, none⟩ = some (.int .i64 b)) :
    Calls Try.prog 48 #[.int .i64 x, .pointer (some ⟨B1, 0, none⟩), .pointer (some ⟨B2, 0, none⟩)] w fun e w' => e = .returned (.bool (!(small64.in a b x))) ∧ Below w.heap.size w w' := by
  have HB := Aside0.mk (Below.refl w.heap.size w)
  by_cases hx : x < a
  · have hxb : decide (x < a) = true := decide_eq_true hx
    have E : Aside0 (small64.in a b x = false) := ⟨by unfold small64.in; rw [decide_eq_false (by omega)]; rfl⟩
    rw [E.out]
    clear hx
    go_enter Try.func48, Try.ntmps48
    go_wp2
    go_ret
    exact ⟨by simp, HB.out⟩
  · have hxb : decide (x < a) = false := decide_eq_false hx
    by_cases hy : x > b
    · have hyb : decide (b < x) = true := decide_eq_true hy
      have E : Aside0 (small64.in a b x = false) := ⟨by unfold small64.in; rw [decide_eq_false (p := x ≤ b) (by omega), Bool.and_false]⟩
      rw [E.out]
      clear hx hy
      go_enter Try.func48, Try.ntmps48
      go_wp2
      go_ret
      exact ⟨by simp, HB.out⟩
    · have hyb : decide (b < x) = false := decide_eq_false (by omega)
      have E : Aside0 (small64.in a b x = true) := ⟨by unfold small64.in; rw [decide_eq_true (p := a ≤ x) (by omega), decide_eq_true (p := x ≤ b) (by omega)]; rfl⟩
      rw [E.out]
      clear hx hy
      go_enter Try.func48, Try.ntmps48
      go_wp2
      go_ret
      exact ⟨by simp, HB.out⟩
set_option maxHeartbeats 8000000 in
theorem small64.calls (a b : Int) (A0 : Option Addr) (c0 : Nat) (l0 : List Int) (w : World) (hr0 : Kd.C (Kd.int .i64) w A0 l0.length l0) :
    Calls Try.prog 35 #[.slice A0 l0.length c0, .int .i64 a, .int .i64 b] w fun e w' => e = .returned (.bool (l0.all (small64.in a b))) ∧ Below w.heap.size w w' := by
  have hb1 : Below w.heap.size w (w.alloc (.cells #[.int .i64 a] 2)) := (Below.refl _ w).alloc (Nat.le_refl _) _
  have hb2 : Below w.heap.size w ((w.alloc (.cells #[.int .i64 a] 2)).alloc (.cells #[.int .i64 b] 2)) := hb1.alloc (by simp) _
  have H := in64.cont (small64.in a b) w.heap.size (w.heap.size + 1) A0 c0 l0 ((w.alloc (.cells #[.int .i64 a] 2)).alloc (.cells #[.int .i64 b] 2)) (Kd.C_below hr0 hb2) (fun x _ W hW => small64.clo a b x w.heap.size (w.heap.size + 1) W ((hW.cell (by simp <;> omega)).trans (by simp)) ((hW.cell (by simp)).trans (by simp)))
  have HB := Aside0.mk hb2
  clear hr0 hb1 hb2
  generalize l0.all (small64.in a b) = r at H
  go_enter Try.func35, Try.ntmps35
  go_wp2_with (go_at_call 47; refine H.mono ?_; rintro e w' ⟨rfl, hb'⟩)
  go_ret
  exact ⟨by simp, HB.out.trans (hb'.mono HB.out.size)⟩
/-- Is a number from a least to a most one? -/
def smallT.in (a b x : Int) : Bool := decide (a ≤ x) && decide (x ≤ b)
set_option maxHeartbeats 8000000 in
theorem smallT.clo (a b x : Int) (B1 B2 : Nat) (w : World) (h1 : w.cell? ⟨B1, 0, none⟩ = some (.int .i64 a)) (h2 : w.cell? ⟨B2, 0, none⟩ = some (.int .i64 b)) :
    Calls Try.prog 50 #[.int .i64 x, .pointer (some ⟨B1, 0, none⟩), .pointer (some ⟨B2, 0, none⟩)] w fun e w' => e = .returned (.bool (!(smallT.in a b x))) ∧ Below w.heap.size w w' := by
  have HB := Aside0.mk (Below.refl w.heap.size w)
  by_cases hx : x < a
  · have hxb : decide (x < a) = true := decide_eq_true hx
    have E : Aside0 (smallT.in a b x = false) := ⟨by unfold smallT.in; rw [decide_eq_false (by omega)]; rfl⟩
    rw [E.out]
    clear hx
    go_enter Try.func50, Try.ntmps50
    go_wp2
    go_ret
    exact ⟨by simp, HB.out⟩
  · have hxb : decide (x < a) = false := decide_eq_false hx
    by_cases hy : x > b
    · have hyb : decide (b < x) = true := decide_eq_true hy
      have E : Aside0 (smallT.in a b x = false) := ⟨by unfold smallT.in; rw [decide_eq_false (p := x ≤ b) (by omega), Bool.and_false]⟩
      rw [E.out]
      clear hx hy
      go_enter Try.func50, Try.ntmps50
      go_wp2
      go_ret
      exact ⟨by simp, HB.out⟩
    · have hyb : decide (b < x) = false := decide_eq_false (by omega)
      have E : Aside0 (smallT.in a b x = true) := ⟨by unfold smallT.in; rw [decide_eq_true (p := a ≤ x) (by omega), decide_eq_true (p := x ≤ b) (by omega)]; rfl⟩
      rw [E.out]
      clear hx hy
      go_enter Try.func50, Try.ntmps50
      go_wp2
      go_ret
      exact ⟨by simp, HB.out⟩
set_option maxHeartbeats 8000000 in
theorem smallT.calls (a b : Int) (A0 : Option Addr) (c0 : Nat) (l0 : List Int) (w : World) (hr0 : Kd.C (Kd.int .i64) w A0 l0.length l0) :
    Calls Try.prog 36 #[.slice A0 l0.length c0, .int .i64 a, .int .i64 b] w fun e w' => e = .returned (.bool (l0.all (smallT.in a b))) ∧ Below w.heap.size w w' := by
  have hb1 : Below w.heap.size w (w.alloc (.cells #[.int .i64 a] 3)) := (Below.refl _ w).alloc (Nat.le_refl _) _
  have hb2 : Below w.heap.size w ((w.alloc (.cells #[.int .i64 a] 3)).alloc (.cells #[.int .i64 b] 3)) := hb1.alloc (by simp) _
  have H := inT.cont (smallT.in a b) w.heap.size (w.heap.size + 1) A0 c0 l0 ((w.alloc (.cells #[.int .i64 a] 3)).alloc (.cells #[.int .i64 b] 3)) (Kd.C_below hr0 hb2) (fun x _ W hW => smallT.clo a b x w.heap.size (w.heap.size + 1) W ((hW.cell (by simp <;> omega)).trans (by simp)) ((hW.cell (by simp)).trans (by simp)))
  have HB := Aside0.mk hb2
  clear hr0 hb1 hb2
  generalize l0.all (smallT.in a b) = r at H
  go_enter Try.func36, Try.ntmps36
  go_wp2_with (go_at_call 49; refine H.mono ?_; rintro e w' ⟨rfl, hb'⟩)
  go_ret
  exact ⟨by simp, HB.out.trans (hb'.mono HB.out.size)⟩
/-- May a thread's transactions be? -/
def rightB (n : Int) (l : List S80) : Bool := decide (1 ≤ l.length) && decide (l.length ≤ 8) && l.all (okB · n)
def txnsB (n : Int) (l : List (List S80)) : Bool := decide (l.length ≤ 6) && l.all (rightB n)
set_option maxHeartbeats 8000000 in
theorem txns.clo (n : Int) (B1 : Nat) (x : List S80) (A : Option Addr) (c : Nat) (w : World) (h1 : w.cell? ⟨B1, 0, none⟩ = some (.int .i64 n)) (hr : Kd.C k80 w A x.length x) (hc : x.length ≤ c) :
    Calls Try.prog 53 #[.slice A x.length c, .pointer (some ⟨B1, 0, none⟩)] w fun e w' => e = .returned (.bool (!(rightB n x))) ∧ Below w.heap.size w w' := by
  have H := lang_Right.calls A c x n (rightB n x) w hr hc rfl
  clear hr hc
  generalize rightB n x = r at H
  go_enter Try.func53, Try.ntmps53
  go_wp2_with (go_at_call 54; refine H.mono ?_; rintro e w' ⟨rfl, hb'⟩)
  go_ret
  exact ⟨rfl, hb'⟩
set_option maxHeartbeats 8000000 in
theorem txns.calls (n : Int) (A0 : Option Addr) (c0 : Nat) (l0 : List (List S80)) (w : World) (hr0 : Kd.C (Kd.slice 80 k80) w A0 l0.length l0) (hc0 : l0.length ≤ c0) :
    Calls Try.prog 39 #[.slice A0 l0.length c0, .int .i64 n] w fun e w' => e = .returned (.bool (txnsB n l0)) ∧ Below w.heap.size w w' := by
  have hb1 : Below w.heap.size w (w.alloc (.cells #[.int .i64 n] 3)) := (Below.refl _ w).alloc (Nat.le_refl _) _
  have H := inOps.cont (rightB n) w.heap.size A0 c0 l0 (w.alloc (.cells #[.int .i64 n] 3)) (Kd.C_below hr0 hb1) (fun x _ A c W hW hK hl => txns.clo n w.heap.size x A c W ((hW.cell (by simp)).trans (by simp)) hK hl)
  have HB := Aside0.mk hb1
  clear hr0 hb1
  by_cases h6 : l0.length ≤ 6
  · have e6 : decide ((l0.length : Int) ≤ 6) = true := decide_eq_true (by omega)
    have E : Aside0 (txnsB n l0 = l0.all (rightB n)) := ⟨by unfold txnsB; rw [decide_eq_true h6]; rfl⟩
    rw [E.out]
    clear h6
    generalize l0.all (rightB n) = r at H
    go_enter Try.func39, Try.ntmps39
    go_wp2_with (go_at_call 52; refine H.mono ?_; rintro e w' ⟨rfl, hb'⟩)
    go_ret
    exact ⟨by simp, HB.out.trans (hb'.mono HB.out.size)⟩
  · have e6 : decide ((l0.length : Int) ≤ 6) = false := decide_eq_false (by omega)
    have E : Aside0 (txnsB n l0 = false) := ⟨by unfold txnsB; rw [decide_eq_false h6]; rfl⟩
    rw [E.out]
    clear h6 H
    go_enter Try.func39, Try.ntmps39
    go_wp2
    go_ret
    exact ⟨by simp, HB.out⟩
set_option maxHeartbeats 8000000 in
theorem okC.clo (a0 a1 a2 a3 a4 a5 : Int) (B1 : Nat) (x : List (List S80)) (A : Option Addr) (c : Nat) (w : World) (h1 : w.cell? ⟨B1, 0, none⟩ = some (.int .i64 a0)) (hr : Kd.C (Kd.slice 80 k80) w A x.length x) (hc : x.length ≤ c) :
    Calls Try.prog 38 #[.slice A x.length c, .pointer (some ⟨B1, 0, none⟩)] w fun e w' => e = .returned (.bool (!(txnsB a0 x))) ∧ Below w.heap.size w w' := by
  have hu25 := Try.underlying25
  have H := txns.calls a0 A c x w hr hc
  clear hr hc
  generalize txnsB a0 x = r at H
  go_enter Try.func38, Try.ntmps38
  go_wp2_with (go_at_call 39; refine H.mono ?_; rintro e w' ⟨rfl, hb'⟩)
  go_ret
  exact ⟨rfl, hb'⟩
end Go.Proofs.Ythfkgnkojhocbaa.S
end
