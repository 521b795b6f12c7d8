/- Part 4 of the proof of scriptBack_holds. Conditions stand in each theorem; nothing is assumed. Gathered by a program of this session out of its texts and the kit's words. -/
import Derived.Test.YthfkgnkojhocbaaZB3
section
namespace Go.Proofs.Ythfkgnkojhocbaa.S
open Go Go.RowKit Go.Proofs.YthfkgnkojhocbaaW.PrintWords Go.Proofs.YthfkgnkojhocbaaW.PrintLast
set_option linter.unusedVariables false
set_option linter.unusedSimpArgs false
theorem new_blk1 (w : World) (o1 o2 : Obj) : ((w.alloc o1).alloc o2).heap[w.heap.size]? = some o1 := blk_alloc (blk_new w o1) o2
theorem new_blk2 (w : World) (o1 o2 : Obj) : ((w.alloc o1).alloc o2).heap[w.heap.size + 1]? = some o2 := by
  have h := blk_new (w.alloc o1) o2
  have e : (w.alloc o1).heap.size = w.heap.size + 1 := by simp
  rwa [e] at h
set_option maxHeartbeats 16000000 in
set_option maxRecDepth 100000 in
theorem okWalk (a0_0 a0_1 a0_2 a0_3 a0_4 a0_5 : Int) (A6 : Option Addr) (c6 : Nat) (l0_6 : List Int) (A7 : Option Addr) (c7 : Nat) (l0_7 : List Int) (A8 : Option Addr) (c8 : Nat) (l0_8 : List (List (List S80))) (A9 : Option Addr) (c9 : Nat) (l0_9 : List Int) (w : World) (b34 b35 b36 b37 : Bool)
    (H34 : ∀ W, Calls Try.prog 34 #[.agg #[.int .i64 a0_0, .int .i64 a0_1, .int .i64 a0_2, .int .i64 a0_3, .int .i64 a0_4, .int .i64 a0_5]] W fun e W' => e = .returned (.bool b34) ∧ Below W.heap.size W W')
    (H35 : ∀ W, Below w.heap.size w W → Calls Try.prog 35 #[.slice A6 l0_6.length c6, .int .i64 (-128), .int .i64 127] W fun e W' => e = .returned (.bool b35) ∧ Below W.heap.size W W')
    (H36 : ∀ W, Below w.heap.size w W → Calls Try.prog 36 #[.slice A9 l0_9.length c9, .int .i64 0, .int .i64 255] W fun e W' => e = .returned (.bool b36) ∧ Below W.heap.size W W')
    (H37 : ∀ W, Below w.heap.size w W → W.cell? ⟨w.heap.size + 1, 0, none⟩ = some (.int .i64 a0_0) → Calls Try.prog 37 #[.slice A8 l0_8.length c8, .func (.func 38) #[] #[.pointer (some ⟨w.heap.size + 1, 0, none⟩)]] W fun e W' => e = .returned (.bool (!b37)) ∧ Below W.heap.size W W')
    (hm6 : l0_6.length ≤ 9223372036854775807) (hm7 : l0_7.length ≤ 9223372036854775807) (hm8 : l0_8.length ≤ 9223372036854775807) :
    Calls Try.prog 17 #[.agg #[.int .i64 a0_0, .int .i64 a0_1, .int .i64 a0_2, .int .i64 a0_3, .int .i64 a0_4, .int .i64 a0_5, .slice A6 l0_6.length c6, .slice A7 l0_7.length c7, .slice A8 l0_8.length c8, .slice A9 l0_9.length c9]] w fun e w' => e = .returned (.bool (b34 && decide ((l0_6.length : Int) = a0_0) && decide (wrap64 (2 * a0_0) ≤ a0_2) && b35 && decide ((l0_8.length : Int) = a0_1) && decide ((l0_7.length : Int) ≤ 255) && b36 && b37)) ∧ Below w.heap.size w w' := by
  have hu25 := Try.underlying25
  have hu30 := Try.underlying30
  have G34 := Aside0.mk H34
  have G35 := Aside0.mk H35
  have G36 := Aside0.mk H36
  have G37 := Aside0.mk H37
  clear H34 H35 H36 H37
  cases b34 with
  | false =>
    have E : Aside0 ((false && decide ((l0_6.length : Int) = a0_0) && decide (wrap64 (2 * a0_0) ≤ a0_2) && b35 && decide ((l0_8.length : Int) = a0_1) && decide ((l0_7.length : Int) ≤ 255) && b36 && b37) = false) := ⟨by simp⟩
    rw [E.out]
    go_enter Try.func17, Try.ntmps17
    go_upto_region 2 with (fail)
    have hb := below_alloc (below_alloc (Below.refl w.heap.size w) (.cells #[.int .i64 a0_0, .int .i64 a0_1, .int .i64 a0_2, .int .i64 a0_3, .int .i64 a0_4, .int .i64 a0_5, .slice A6 l0_6.length c6, .slice A7 l0_7.length c7, .slice A8 l0_8.length c8, .slice A9 l0_9.length c9] 30)) (.cells #[.int .i64 a0_0, .int .i64 a0_1, .int .i64 a0_2, .int .i64 a0_3, .int .i64 a0_4, .int .i64 a0_5] 25)
    have bs : ((w.alloc (.cells #[.int .i64 a0_0, .int .i64 a0_1, .int .i64 a0_2, .int .i64 a0_3, .int .i64 a0_4, .int .i64 a0_5, .slice A6 l0_6.length c6, .slice A7 l0_7.length c7, .slice A8 l0_8.length c8, .slice A9 l0_9.length c9] 30)).alloc (.cells #[.int .i64 a0_0, .int .i64 a0_1, .int .i64 a0_2, .int .i64 a0_3, .int .i64 a0_4, .int .i64 a0_5] 25)).heap[w.heap.size]? = some (.cells #[.int .i64 a0_0, .int .i64 a0_1, .int .i64 a0_2, .int .i64 a0_3, .int .i64 a0_4, .int .i64 a0_5, .slice A6 l0_6.length c6, .slice A7 l0_7.length c7, .slice A8 l0_8.length c8, .slice A9 l0_9.length c9] 30 (0, 0)) := new_blk1 w _ _
    have bc : ((w.alloc (.cells #[.int .i64 a0_0, .int .i64 a0_1, .int .i64 a0_2, .int .i64 a0_3, .int .i64 a0_4, .int .i64 a0_5, .slice A6 l0_6.length c6, .slice A7 l0_7.length c7, .slice A8 l0_8.length c8, .slice A9 l0_9.length c9] 30)).alloc (.cells #[.int .i64 a0_0, .int .i64 a0_1, .int .i64 a0_2, .int .i64 a0_3, .int .i64 a0_4, .int .i64 a0_5] 25)).heap[w.heap.size + 1]? = some (.cells #[.int .i64 a0_0, .int .i64 a0_1, .int .i64 a0_2, .int .i64 a0_3, .int .i64 a0_4, .int .i64 a0_5] 25 (0, 0)) := new_blk2 w _ _
    generalize ((w.alloc (.cells #[.int .i64 a0_0, .int .i64 a0_1, .int .i64 a0_2, .int .i64 a0_3, .int .i64 a0_4, .int .i64 a0_5, .slice A6 l0_6.length c6, .slice A7 l0_7.length c7, .slice A8 l0_8.length c8, .slice A9 l0_9.length c9] 30)).alloc (.cells #[.int .i64 a0_0, .int .i64 a0_1, .int .i64 a0_2, .int .i64 a0_3, .int .i64 a0_4, .int .i64 a0_5] 25)) = w2 at hb bs bc ⊢
    have HB2 := Aside0.mk hb
    have BS2 := Aside0.mk bs
    have BC2 := Aside0.mk bc
    clear hb bs bc
    have ks2_6 : World.cell? w2 ⟨w.heap.size, 6, none⟩ = some (.slice A6 l0_6.length c6) := (blk_cell BS2.out 6).trans rfl
    have ks2_7 : World.cell? w2 ⟨w.heap.size, 7, none⟩ = some (.slice A7 l0_7.length c7) := (blk_cell BS2.out 7).trans rfl
    have ks2_8 : World.cell? w2 ⟨w.heap.size, 8, none⟩ = some (.slice A8 l0_8.length c8) := (blk_cell BS2.out 8).trans rfl
    have ks2_9 : World.cell? w2 ⟨w.heap.size, 9, none⟩ = some (.slice A9 l0_9.length c9) := (blk_cell BS2.out 9).trans rfl
    have kc2_0 : World.cell? w2 ⟨w.heap.size + 1, 0, none⟩ = some (.int .i64 a0_0) := (blk_cell BC2.out 0).trans rfl
    have kc2_1 : World.cell? w2 ⟨w.heap.size + 1, 1, none⟩ = some (.int .i64 a0_1) := (blk_cell BC2.out 1).trans rfl
    have kc2_2 : World.cell? w2 ⟨w.heap.size + 1, 2, none⟩ = some (.int .i64 a0_2) := (blk_cell BC2.out 2).trans rfl
    have kc2_3 : World.cell? w2 ⟨w.heap.size + 1, 3, none⟩ = some (.int .i64 a0_3) := (blk_cell BC2.out 3).trans rfl
    have kc2_4 : World.cell? w2 ⟨w.heap.size + 1, 4, none⟩ = some (.int .i64 a0_4) := (blk_cell BC2.out 4).trans rfl
    have kc2_5 : World.cell? w2 ⟨w.heap.size + 1, 5, none⟩ = some (.int .i64 a0_5) := (blk_cell BC2.out 5).trans rfl
    go_wp2_with (first | (go_at_call 34; refine (G34.out w2).mono ?_; rintro e w3 ⟨rfl, hb⟩; have HB3 := Aside0.mk (below_step HB2.out hb); have BS3 := Aside0.mk (blk_below BS2.out hb); have BC3 := Aside0.mk (blk_below BC2.out hb); clear hb; clear ks2_6 ks2_7 ks2_8 ks2_9 kc2_0 kc2_1 kc2_2 kc2_3 kc2_4 kc2_5; have ks3_6 : World.cell? w3 ⟨w.heap.size, 6, none⟩ = some (.slice A6 l0_6.length c6) := (blk_cell BS3.out 6).trans rfl; have ks3_7 : World.cell? w3 ⟨w.heap.size, 7, none⟩ = some (.slice A7 l0_7.length c7) := (blk_cell BS3.out 7).trans rfl; have ks3_8 : World.cell? w3 ⟨w.heap.size, 8, none⟩ = some (.slice A8 l0_8.length c8) := (blk_cell BS3.out 8).trans rfl; have ks3_9 : World.cell? w3 ⟨w.heap.size, 9, none⟩ = some (.slice A9 l0_9.length c9) := (blk_cell BS3.out 9).trans rfl; have kc3_0 : World.cell? w3 ⟨w.heap.size + 1, 0, none⟩ = some (.int .i64 a0_0) := (blk_cell BC3.out 0).trans rfl; have kc3_1 : World.cell? w3 ⟨w.heap.size + 1, 1, none⟩ = some (.int .i64 a0_1) := (blk_cell BC3.out 1).trans rfl; have kc3_2 : World.cell? w3 ⟨w.heap.size + 1, 2, none⟩ = some (.int .i64 a0_2) := (blk_cell BC3.out 2).trans rfl; have kc3_3 : World.cell? w3 ⟨w.heap.size + 1, 3, none⟩ = some (.int .i64 a0_3) := (blk_cell BC3.out 3).trans rfl; have kc3_4 : World.cell? w3 ⟨w.heap.size + 1, 4, none⟩ = some (.int .i64 a0_4) := (blk_cell BC3.out 4).trans rfl; have kc3_5 : World.cell? w3 ⟨w.heap.size + 1, 5, none⟩ = some (.int .i64 a0_5) := (blk_cell BC3.out 5).trans rfl))
    go_ret
    exact ⟨by simp, HB3.out⟩
  | true =>
    by_cases h_len6 : (l0_6.length : Int) = a0_0
    rotate_left
    · have f_len6 : ((l0_6.length : Int) == a0_0) = false := beq_false_of_ne h_len6
      have g_len6 : decide ((l0_6.length : Int) = a0_0) = false := decide_eq_false h_len6
      clear h_len6
      have E : Aside0 ((true && decide ((l0_6.length : Int) = a0_0) && decide (wrap64 (2 * a0_0) ≤ a0_2) && b35 && decide ((l0_8.length : Int) = a0_1) && decide ((l0_7.length : Int) ≤ 255) && b36 && b37) = false) := ⟨by rw [g_len6]; simp⟩
      rw [E.out]
      go_enter Try.func17, Try.ntmps17
      go_upto_region 2 with (fail)
      have hb := below_alloc (below_alloc (Below.refl w.heap.size w) (.cells #[.int .i64 a0_0, .int .i64 a0_1, .int .i64 a0_2, .int .i64 a0_3, .int .i64 a0_4, .int .i64 a0_5, .slice A6 l0_6.length c6, .slice A7 l0_7.length c7, .slice A8 l0_8.length c8, .slice A9 l0_9.length c9] 30)) (.cells #[.int .i64 a0_0, .int .i64 a0_1, .int .i64 a0_2, .int .i64 a0_3, .int .i64 a0_4, .int .i64 a0_5] 25)
      have bs : ((w.alloc (.cells #[.int .i64 a0_0, .int .i64 a0_1, .int .i64 a0_2, .int .i64 a0_3, .int .i64 a0_4, .int .i64 a0_5, .slice A6 l0_6.length c6, .slice A7 l0_7.length c7, .slice A8 l0_8.length c8, .slice A9 l0_9.length c9] 30)).alloc (.cells #[.int .i64 a0_0, .int .i64 a0_1, .int .i64 a0_2, .int .i64 a0_3, .int .i64 a0_4, .int .i64 a0_5] 25)).heap[w.heap.size]? = some (.cells #[.int .i64 a0_0, .int .i64 a0_1, .int .i64 a0_2, .int .i64 a0_3, .int .i64 a0_4, .int .i64 a0_5, .slice A6 l0_6.length c6, .slice A7 l0_7.length c7, .slice A8 l0_8.length c8, .slice A9 l0_9.length c9] 30 (0, 0)) := new_blk1 w _ _
      have bc : ((w.alloc (.cells #[.int .i64 a0_0, .int .i64 a0_1, .int .i64 a0_2, .int .i64 a0_3, .int .i64 a0_4, .int .i64 a0_5, .slice A6 l0_6.length c6, .slice A7 l0_7.length c7, .slice A8 l0_8.length c8, .slice A9 l0_9.length c9] 30)).alloc (.cells #[.int .i64 a0_0, .int .i64 a0_1, .int .i64 a0_2, .int .i64 a0_3, .int .i64 a0_4, .int .i64 a0_5] 25)).heap[w.heap.size + 1]? = some (.cells #[.int .i64 a0_0, .int .i64 a0_1, .int .i64 a0_2, .int .i64 a0_3, .int .i64 a0_4, .int .i64 a0_5] 25 (0, 0)) := new_blk2 w _ _
      generalize ((w.alloc (.cells #[.int .i64 a0_0, .int .i64 a0_1, .int .i64 a0_2, .int .i64 a0_3, .int .i64 a0_4, .int .i64 a0_5, .slice A6 l0_6.length c6, .slice A7 l0_7.length c7, .slice A8 l0_8.length c8, .slice A9 l0_9.length c9] 30)).alloc (.cells #[.int .i64 a0_0, .int .i64 a0_1, .int .i64 a0_2, .int .i64 a0_3, .int .i64 a0_4, .int .i64 a0_5] 25)) = w2 at hb bs bc ⊢
      have HB2 := Aside0.mk hb
      have BS2 := Aside0.mk bs
      have BC2 := Aside0.mk bc
      clear hb bs bc
      have ks2_6 : World.cell? w2 ⟨w.heap.size, 6, none⟩ = some (.slice A6 l0_6.length c6) := (blk_cell BS2.out 6).trans rfl
      have ks2_7 : World.cell? w2 ⟨w.heap.size, 7, none⟩ = some (.slice A7 l0_7.length c7) := (blk_cell BS2.out 7).trans rfl
      have ks2_8 : World.cell? w2 ⟨w.heap.size, 8, none⟩ = some (.slice A8 l0_8.length c8) := (blk_cell BS2.out 8).trans rfl
      have ks2_9 : World.cell? w2 ⟨w.heap.size, 9, none⟩ = some (.slice A9 l0_9.length c9) := (blk_cell BS2.out 9).trans rfl
      have kc2_0 : World.cell? w2 ⟨w.heap.size + 1, 0, none⟩ = some (.int .i64 a0_0) := (blk_cell BC2.out 0).trans rfl
      have kc2_1 : World.cell? w2 ⟨w.heap.size + 1, 1, none⟩ = some (.int .i64 a0_1) := (blk_cell BC2.out 1).trans rfl
      have kc2_2 : World.cell? w2 ⟨w.heap.size + 1, 2, none⟩ = some (.int .i64 a0_2) := (blk_cell BC2.out 2).trans rfl
      have kc2_3 : World.cell? w2 ⟨w.heap.size + 1, 3, none⟩ = some (.int .i64 a0_3) := (blk_cell BC2.out 3).trans rfl
      have kc2_4 : World.cell? w2 ⟨w.heap.size + 1, 4, none⟩ = some (.int .i64 a0_4) := (blk_cell BC2.out 4).trans rfl
      have kc2_5 : World.cell? w2 ⟨w.heap.size + 1, 5, none⟩ = some (.int .i64 a0_5) := (blk_cell BC2.out 5).trans rfl
      go_wp2_with (first | (go_at_call 34; refine (G34.out w2).mono ?_; rintro e w3 ⟨rfl, hb⟩; have HB3 := Aside0.mk (below_step HB2.out hb); have BS3 := Aside0.mk (blk_below BS2.out hb); have BC3 := Aside0.mk (blk_below BC2.out hb); clear hb; clear ks2_6 ks2_7 ks2_8 ks2_9 kc2_0 kc2_1 kc2_2 kc2_3 kc2_4 kc2_5; have ks3_6 : World.cell? w3 ⟨w.heap.size, 6, none⟩ = some (.slice A6 l0_6.length c6) := (blk_cell BS3.out 6).trans rfl; have ks3_7 : World.cell? w3 ⟨w.heap.size, 7, none⟩ = some (.slice A7 l0_7.length c7) := (blk_cell BS3.out 7).trans rfl; have ks3_8 : World.cell? w3 ⟨w.heap.size, 8, none⟩ = some (.slice A8 l0_8.length c8) := (blk_cell BS3.out 8).trans rfl; have ks3_9 : World.cell? w3 ⟨w.heap.size, 9, none⟩ = some (.slice A9 l0_9.length c9) := (blk_cell BS3.out 9).trans rfl; have kc3_0 : World.cell? w3 ⟨w.heap.size + 1, 0, none⟩ = some (.int .i64 a0_0) := (blk_cell BC3.out 0).trans rfl; have kc3_1 : World.cell? w3 ⟨w.heap.size + 1, 1, none⟩ = some (.int .i64 a0_1) := (blk_cell BC3.out 1).trans rfl; have kc3_2 : World.cell? w3 ⟨w.heap.size + 1, 2, none⟩ = some (.int .i64 a0_2) := (blk_cell BC3.out 2).trans rfl; have kc3_3 : World.cell? w3 ⟨w.heap.size + 1, 3, none⟩ = some (.int .i64 a0_3) := (blk_cell BC3.out 3).trans rfl; have kc3_4 : World.cell? w3 ⟨w.heap.size + 1, 4, none⟩ = some (.int .i64 a0_4) := (blk_cell BC3.out 4).trans rfl; have kc3_5 : World.cell? w3 ⟨w.heap.size + 1, 5, none⟩ = some (.int .i64 a0_5) := (blk_cell BC3.out 5).trans rfl))
      go_ret
      exact ⟨by simp, HB3.out⟩
    have f_len6 : ((l0_6.length : Int) == a0_0) = true := beq_iff_eq.2 h_len6
    have g_len6 : decide ((l0_6.length : Int) = a0_0) = true := decide_eq_true h_len6
    clear h_len6
    by_cases h_rec : wrap64 (2 * a0_0) ≤ a0_2
    rotate_left
    · have g_rec : decide (wrap64 (2 * a0_0) ≤ a0_2) = false := decide_eq_false h_rec
      clear h_rec
      have E : Aside0 ((true && decide ((l0_6.length : Int) = a0_0) && decide (wrap64 (2 * a0_0) ≤ a0_2) && b35 && decide ((l0_8.length : Int) = a0_1) && decide ((l0_7.length : Int) ≤ 255) && b36 && b37) = false) := ⟨by rw [g_len6, g_rec]; simp⟩
      rw [E.out]
      go_enter Try.func17, Try.ntmps17
      go_upto_region 2 with (fail)
      have hb := below_alloc (below_alloc (Below.refl w.heap.size w) (.cells #[.int .i64 a0_0, .int .i64 a0_1, .int .i64 a0_2, .int .i64 a0_3, .int .i64 a0_4, .int .i64 a0_5, .slice A6 l0_6.length c6, .slice A7 l0_7.length c7, .slice A8 l0_8.length c8, .slice A9 l0_9.length c9] 30)) (.cells #[.int .i64 a0_0, .int .i64 a0_1, .int .i64 a0_2, .int .i64 a0_3, .int .i64 a0_4, .int .i64 a0_5] 25)
      have bs : ((w.alloc (.cells #[.int .i64 a0_0, .int .i64 a0_1, .int .i64 a0_2, .int .i64 a0_3, .int .i64 a0_4, .int .i64 a0_5, .slice A6 l0_6.length c6, .slice A7 l0_7.length c7, .slice A8 l0_8.length c8, .slice A9 l0_9.length c9] 30)).alloc (.cells #[.int .i64 a0_0, .int .i64 a0_1, .int .i64 a0_2, .int .i64 a0_3, .int .i64 a0_4, .int .i64 a0_5] 25)).heap[w.heap.size]? = some (.cells #[.int .i64 a0_0, .int .i64 a0_1, .int .i64 a0_2, .int .i64 a0_3, .int .i64 a0_4, .int .i64 a0_5, .slice A6 l0_6.length c6, .slice A7 l0_7.length c7, .slice A8 l0_8.length c8, .slice A9 l0_9.length c9] 30 (0, 0)) := new_blk1 w _ _
      have bc : ((w.alloc (.cells #[.int .i64 a0_0, .int .i64 a0_1, .int .i64 a0_2, .int .i64 a0_3, .int .i64 a0_4, .int .i64 a0_5, .slice A6 l0_6.length c6, .slice A7 l0_7.length c7, .slice A8 l0_8.length c8, .slice A9 l0_9.length c9] 30)).alloc (.cells #[.int .i64 a0_0, .int .i64 a0_1, .int .i64 a0_2, .int .i64 a0_3, .int .i64 a0_4, .int .i64 a0_5] 25)).heap[w.heap.size + 1]? = some (.cells #[.int .i64 a0_0, .int .i64 a0_1, .int .i64 a0_2, .int .i64 a0_3, .int .i64 a0_4, .int .i64 a0_5] 25 (0, 0)) := new_blk2 w _ _
      generalize ((w.alloc (.cells #[.int .i64 a0_0, .int .i64 a0_1, .int .i64 a0_2, .int .i64 a0_3, .int .i64 a0_4, .int .i64 a0_5, .slice A6 l0_6.length c6, .slice A7 l0_7.length c7, .slice A8 l0_8.length c8, .slice A9 l0_9.length c9] 30)).alloc (.cells #[.int .i64 a0_0, .int .i64 a0_1, .int .i64 a0_2, .int .i64 a0_3, .int .i64 a0_4, .int .i64 a0_5] 25)) = w2 at hb bs bc ⊢
      have HB2 := Aside0.mk hb
      have BS2 := Aside0.mk bs
      have BC2 := Aside0.mk bc
      clear hb bs bc
      have ks2_6 : World.cell? w2 ⟨w.heap.size, 6, none⟩ = some (.slice A6 l0_6.length c6) := (blk_cell BS2.out 6).trans rfl
      have ks2_7 : World.cell? w2 ⟨w.heap.size, 7, none⟩ = some (.slice A7 l0_7.length c7) := (blk_cell BS2.out 7).trans rfl
      have ks2_8 : World.cell? w2 ⟨w.heap.size, 8, none⟩ = some (.slice A8 l0_8.length c8) := (blk_cell BS2.out 8).trans rfl
      have ks2_9 : World.cell? w2 ⟨w.heap.size, 9, none⟩ = some (.slice A9 l0_9.length c9) := (blk_cell BS2.out 9).trans rfl
      have kc2_0 : World.cell? w2 ⟨w.heap.size + 1, 0, none⟩ = some (.int .i64 a0_0) := (blk_cell BC2.out 0).trans rfl
      have kc2_1 : World.cell? w2 ⟨w.heap.size + 1, 1, none⟩ = some (.int .i64 a0_1) := (blk_cell BC2.out 1).trans rfl
      have kc2_2 : World.cell? w2 ⟨w.heap.size + 1, 2, none⟩ = some (.int .i64 a0_2) := (blk_cell BC2.out 2).trans rfl
      have kc2_3 : World.cell? w2 ⟨w.heap.size + 1, 3, none⟩ = some (.int .i64 a0_3) := (blk_cell BC2.out 3).trans rfl
      have kc2_4 : World.cell? w2 ⟨w.heap.size + 1, 4, none⟩ = some (.int .i64 a0_4) := (blk_cell BC2.out 4).trans rfl
      have kc2_5 : World.cell? w2 ⟨w.heap.size + 1, 5, none⟩ = some (.int .i64 a0_5) := (blk_cell BC2.out 5).trans rfl
      go_wp2_with (first | (go_at_call 34; refine (G34.out w2).mono ?_; rintro e w3 ⟨rfl, hb⟩; have HB3 := Aside0.mk (below_step HB2.out hb); have BS3 := Aside0.mk (blk_below BS2.out hb); have BC3 := Aside0.mk (blk_below BC2.out hb); clear hb; clear ks2_6 ks2_7 ks2_8 ks2_9 kc2_0 kc2_1 kc2_2 kc2_3 kc2_4 kc2_5; have ks3_6 : World.cell? w3 ⟨w.heap.size, 6, none⟩ = some (.slice A6 l0_6.length c6) := (blk_cell BS3.out 6).trans rfl; have ks3_7 : World.cell? w3 ⟨w.heap.size, 7, none⟩ = some (.slice A7 l0_7.length c7) := (blk_cell BS3.out 7).trans rfl; have ks3_8 : World.cell? w3 ⟨w.heap.size, 8, none⟩ = some (.slice A8 l0_8.length c8) := (blk_cell BS3.out 8).trans rfl; have ks3_9 : World.cell? w3 ⟨w.heap.size, 9, none⟩ = some (.slice A9 l0_9.length c9) := (blk_cell BS3.out 9).trans rfl; have kc3_0 : World.cell? w3 ⟨w.heap.size + 1, 0, none⟩ = some (.int .i64 a0_0) := (blk_cell BC3.out 0).trans rfl; have kc3_1 : World.cell? w3 ⟨w.heap.size + 1, 1, none⟩ = some (.int .i64 a0_1) := (blk_cell BC3.out 1).trans rfl; have kc3_2 : World.cell? w3 ⟨w.heap.size + 1, 2, none⟩ = some (.int .i64 a0_2) := (blk_cell BC3.out 2).trans rfl; have kc3_3 : World.cell? w3 ⟨w.heap.size + 1, 3, none⟩ = some (.int .i64 a0_3) := (blk_cell BC3.out 3).trans rfl; have kc3_4 : World.cell? w3 ⟨w.heap.size + 1, 4, none⟩ = some (.int .i64 a0_4) := (blk_cell BC3.out 4).trans rfl; have kc3_5 : World.cell? w3 ⟨w.heap.size + 1, 5, none⟩ = some (.int .i64 a0_5) := (blk_cell BC3.out 5).trans rfl))
      go_ret
      exact ⟨by simp, HB3.out⟩
    have g_rec : decide (wrap64 (2 * a0_0) ≤ a0_2) = true := decide_eq_true h_rec
    clear h_rec
    cases b35 with
    | false =>
      have E : Aside0 ((true && decide ((l0_6.length : Int) = a0_0) && decide (wrap64 (2 * a0_0) ≤ a0_2) && false && decide ((l0_8.length : Int) = a0_1) && decide ((l0_7.length : Int) ≤ 255) && b36 && b37) = false) := ⟨by rw [g_len6, g_rec]; simp⟩
      rw [E.out]
      go_enter Try.func17, Try.ntmps17
      go_upto_region 2 with (fail)
      have hb := below_alloc (below_alloc (Below.refl w.heap.size w) (.cells #[.int .i64 a0_0, .int .i64 a0_1, .int .i64 a0_2, .int .i64 a0_3, .int .i64 a0_4, .int .i64 a0_5, .slice A6 l0_6.length c6, .slice A7 l0_7.length c7, .slice A8 l0_8.length c8, .slice A9 l0_9.length c9] 30)) (.cells #[.int .i64 a0_0, .int .i64 a0_1, .int .i64 a0_2, .int .i64 a0_3, .int .i64 a0_4, .int .i64 a0_5] 25)
      have bs : ((w.alloc (.cells #[.int .i64 a0_0, .int .i64 a0_1, .int .i64 a0_2, .int .i64 a0_3, .int .i64 a0_4, .int .i64 a0_5, .slice A6 l0_6.length c6, .slice A7 l0_7.length c7, .slice A8 l0_8.length c8, .slice A9 l0_9.length c9] 30)).alloc (.cells #[.int .i64 a0_0, .int .i64 a0_1, .int .i64 a0_2, .int .i64 a0_3, .int .i64 a0_4, .int .i64 a0_5] 25)).heap[w.heap.size]? = some (.cells #[.int .i64 a0_0, .int .i64 a0_1, .int .i64 a0_2, .int .i64 a0_3, .int .i64 a0_4, .int .i64 a0_5, .slice A6 l0_6.length c6, .slice A7 l0_7.length c7, .slice A8 l0_8.length c8, .slice A9 l0_9.length c9] 30 (0, 0)) := new_blk1 w _ _
      have bc : ((w.alloc (.cells #[.int .i64 a0_0, .int .i64 a0_1, .int .i64 a0_2, .int .i64 a0_3, .int .i64 a0_4, .int .i64 a0_5, .slice A6 l0_6.length c6, .slice A7 l0_7.length c7, .slice A8 l0_8.length c8, .slice A9 l0_9.length c9] 30)).alloc (.cells #[.int .i64 a0_0, .int .i64 a0_1, .int .i64 a0_2, .int .i64 a0_3, .int .i64 a0_4, .int .i64 a0_5] 25)).heap[w.heap.size + 1]? = some (.cells #[.int .i64 a0_0, .int .i64 a0_1, .int .i64 a0_2, .int .i64 a0_3, .int .i64 a0_4, .int .i64 a0_5] 25 (0, 0)) := new_blk2 w _ _
      generalize ((w.alloc (.cells #[.int .i64 a0_0, .int .i64 a0_1, .int .i64 a0_2, .int .i64 a0_3, .int .i64 a0_4, .int .i64 a0_5, .slice A6 l0_6.length c6, .slice A7 l0_7.length c7, .slice A8 l0_8.length c8, .slice A9 l0_9.length c9] 30)).alloc (.cells #[.int .i64 a0_0, .int .i64 a0_1, .int .i64 a0_2, .int .i64 a0_3, .int .i64 a0_4, .int .i64 a0_5] 25)) = w2 at hb bs bc ⊢
      have HB2 := Aside0.mk hb
      have BS2 := Aside0.mk bs
      have BC2 := Aside0.mk bc
      clear hb bs bc
      have ks2_6 : World.cell? w2 ⟨w.heap.size, 6, none⟩ = some (.slice A6 l0_6.length c6) := (blk_cell BS2.out 6).trans rfl
      have ks2_7 : World.cell? w2 ⟨w.heap.size, 7, none⟩ = some (.slice A7 l0_7.length c7) := (blk_cell BS2.out 7).trans rfl
      have ks2_8 : World.cell? w2 ⟨w.heap.size, 8, none⟩ = some (.slice A8 l0_8.length c8) := (blk_cell BS2.out 8).trans rfl
      have ks2_9 : World.cell? w2 ⟨w.heap.size, 9, none⟩ = some (.slice A9 l0_9.length c9) := (blk_cell BS2.out 9).trans rfl
      have kc2_0 : World.cell? w2 ⟨w.heap.size + 1, 0, none⟩ = some (.int .i64 a0_0) := (blk_cell BC2.out 0).trans rfl
      have kc2_1 : World.cell? w2 ⟨w.heap.size + 1, 1, none⟩ = some (.int .i64 a0_1) := (blk_cell BC2.out 1).trans rfl
      have kc2_2 : World.cell? w2 ⟨w.heap.size + 1, 2, none⟩ = some (.int .i64 a0_2) := (blk_cell BC2.out 2).trans rfl
      have kc2_3 : World.cell? w2 ⟨w.heap.size + 1, 3, none⟩ = some (.int .i64 a0_3) := (blk_cell BC2.out 3).trans rfl
      have kc2_4 : World.cell? w2 ⟨w.heap.size + 1, 4, none⟩ = some (.int .i64 a0_4) := (blk_cell BC2.out 4).trans rfl
      have kc2_5 : World.cell? w2 ⟨w.heap.size + 1, 5, none⟩ = some (.int .i64 a0_5) := (blk_cell BC2.out 5).trans rfl
      go_wp2_with (first | (go_at_call 34; refine (G34.out w2).mono ?_; rintro e w3 ⟨rfl, hb⟩; have HB3 := Aside0.mk (below_step HB2.out hb); have BS3 := Aside0.mk (blk_below BS2.out hb); have BC3 := Aside0.mk (blk_below BC2.out hb); clear hb; clear ks2_6 ks2_7 ks2_8 ks2_9 kc2_0 kc2_1 kc2_2 kc2_3 kc2_4 kc2_5; have ks3_6 : World.cell? w3 ⟨w.heap.size, 6, none⟩ = some (.slice A6 l0_6.length c6) := (blk_cell BS3.out 6).trans rfl; have ks3_7 : World.cell? w3 ⟨w.heap.size, 7, none⟩ = some (.slice A7 l0_7.length c7) := (blk_cell BS3.out 7).trans rfl; have ks3_8 : World.cell? w3 ⟨w.heap.size, 8, none⟩ = some (.slice A8 l0_8.length c8) := (blk_cell BS3.out 8).trans rfl; have ks3_9 : World.cell? w3 ⟨w.heap.size, 9, none⟩ = some (.slice A9 l0_9.length c9) := (blk_cell BS3.out 9).trans rfl; have kc3_0 : World.cell? w3 ⟨w.heap.size + 1, 0, none⟩ = some (.int .i64 a0_0) := (blk_cell BC3.out 0).trans rfl; have kc3_1 : World.cell? w3 ⟨w.heap.size + 1, 1, none⟩ = some (.int .i64 a0_1) := (blk_cell BC3.out 1).trans rfl; have kc3_2 : World.cell? w3 ⟨w.heap.size + 1, 2, none⟩ = some (.int .i64 a0_2) := (blk_cell BC3.out 2).trans rfl; have kc3_3 : World.cell? w3 ⟨w.heap.size + 1, 3, none⟩ = some (.int .i64 a0_3) := (blk_cell BC3.out 3).trans rfl; have kc3_4 : World.cell? w3 ⟨w.heap.size + 1, 4, none⟩ = some (.int .i64 a0_4) := (blk_cell BC3.out 4).trans rfl; have kc3_5 : World.cell? w3 ⟨w.heap.size + 1, 5, none⟩ = some (.int .i64 a0_5) := (blk_cell BC3.out 5).trans rfl) | (go_at_call 35; refine (G35.out w3 HB3.out).mono ?_; rintro e w4 ⟨rfl, hb⟩; have HB4 := Aside0.mk (below_step HB3.out hb); have BS4 := Aside0.mk (blk_below BS3.out hb); have BC4 := Aside0.mk (blk_below BC3.out hb); clear hb; clear ks3_6 ks3_7 ks3_8 ks3_9 kc3_0 kc3_1 kc3_2 kc3_3 kc3_4 kc3_5; have ks4_6 : World.cell? w4 ⟨w.heap.size, 6, none⟩ = some (.slice A6 l0_6.length c6) := (blk_cell BS4.out 6).trans rfl; have ks4_7 : World.cell? w4 ⟨w.heap.size, 7, none⟩ = some (.slice A7 l0_7.length c7) := (blk_cell BS4.out 7).trans rfl; have ks4_8 : World.cell? w4 ⟨w.heap.size, 8, none⟩ = some (.slice A8 l0_8.length c8) := (blk_cell BS4.out 8).trans rfl; have ks4_9 : World.cell? w4 ⟨w.heap.size, 9, none⟩ = some (.slice A9 l0_9.length c9) := (blk_cell BS4.out 9).trans rfl; have kc4_0 : World.cell? w4 ⟨w.heap.size + 1, 0, none⟩ = some (.int .i64 a0_0) := (blk_cell BC4.out 0).trans rfl; have kc4_1 : World.cell? w4 ⟨w.heap.size + 1, 1, none⟩ = some (.int .i64 a0_1) := (blk_cell BC4.out 1).trans rfl; have kc4_2 : World.cell? w4 ⟨w.heap.size + 1, 2, none⟩ = some (.int .i64 a0_2) := (blk_cell BC4.out 2).trans rfl; have kc4_3 : World.cell? w4 ⟨w.heap.size + 1, 3, none⟩ = some (.int .i64 a0_3) := (blk_cell BC4.out 3).trans rfl; have kc4_4 : World.cell? w4 ⟨w.heap.size + 1, 4, none⟩ = some (.int .i64 a0_4) := (blk_cell BC4.out 4).trans rfl; have kc4_5 : World.cell? w4 ⟨w.heap.size + 1, 5, none⟩ = some (.int .i64 a0_5) := (blk_cell BC4.out 5).trans rfl))
      go_ret
      exact ⟨by simp, HB4.out⟩
    | true =>
      by_cases h_len8 : (l0_8.length : Int) = a0_1
      rotate_left
      · have f_len8 : ((l0_8.length : Int) == a0_1) = false := beq_false_of_ne h_len8
        have g_len8 : decide ((l0_8.length : Int) = a0_1) = false := decide_eq_false h_len8
        clear h_len8
        have E : Aside0 ((true && decide ((l0_6.length : Int) = a0_0) && decide (wrap64 (2 * a0_0) ≤ a0_2) && true && decide ((l0_8.length : Int) = a0_1) && decide ((l0_7.length : Int) ≤ 255) && b36 && b37) = false) := ⟨by rw [g_len6, g_rec, g_len8]; simp⟩
        rw [E.out]
        go_enter Try.func17, Try.ntmps17
        go_upto_region 2 with (fail)
        have hb := below_alloc (below_alloc (Below.refl w.heap.size w) (.cells #[.int .i64 a0_0, .int .i64 a0_1, .int .i64 a0_2, .int .i64 a0_3, .int .i64 a0_4, .int .i64 a0_5, .slice A6 l0_6.length c6, .slice A7 l0_7.length c7, .slice A8 l0_8.length c8, .slice A9 l0_9.length c9] 30)) (.cells #[.int .i64 a0_0, .int .i64 a0_1, .int .i64 a0_2, .int .i64 a0_3, .int .i64 a0_4, .int .i64 a0_5] 25)
        have bs : ((w.alloc (.cells #[.int .i64 a0_0, .int .i64 a0_1, .int .i64 a0_2, .int .i64 a0_3, .int .i64 a0_4, .int .i64 a0_5, .slice A6 l0_6.length c6, .slice A7 l0_7.length c7, .slice A8 l0_8.length c8, .slice A9 l0_9.length c9] 30)).alloc (.cells #[.int .i64 a0_0, .int .i64 a0_1, .int .i64 a0_2, .int .i64 a0_3, .int .i64 a0_4, .int .i64 a0_5] 25)).heap[w.heap.size]? = some (.cells #[.int .i64 a0_0, .int .i64 a0_1, .int .i64 a0_2, .int .i64 a0_3, .int .i64 a0_4, .int .i64 a0_5, .slice A6 l0_6.length c6, .slice A7 l0_7.length c7, .slice A8 l0_8.length c8, .slice A9 l0_9.length c9] 30 (0, 0)) := new_blk1 w _ _
        have bc : ((w.alloc (.cells #[.int .i64 a0_0, .int .i64 a0_1, .int .i64 a0_2, .int .i64 a0_3, .int .i64 a0_4, .int .i64 a0_5, .slice A6 l0_6.length c6, .slice A7 l0_7.length c7, .slice A8 l0_8.length c8, .slice A9 l0_9.length c9] 30)).alloc (.cells #[.int .i64 a0_0, .int .i64 a0_1, .int .i64 a0_2, .int .i64 a0_3, .int .i64 a0_4, .int .i64 a0_5] 25)).heap[w.heap.size + 1]? = some (.cells #[.int .i64 a0_0, .int .i64 a0_1, .int .i64 a0_2, .int .i64 a0_3, .int .i64 a0_4, .int .i64 a0_5] 25 (0, 0)) := new_blk2 w _ _
        generalize ((w.alloc (.cells #[.int .i64 a0_0, .int .i64 a0_1, .int .i64 a0_2, .int .i64 a0_3, .int .i64 a0_4, .int .i64 a0_5, .slice A6 l0_6.length c6, .slice A7 l0_7.length c7, .slice A8 l0_8.length c8, .slice A9 l0_9.length c9] 30)).alloc (.cells #[.int .i64 a0_0, .int .i64 a0_1, .int .i64 a0_2, .int .i64 a0_3, .int .i64 a0_4, .int .i64 a0_5] 25)) = w2 at hb bs bc ⊢
        have HB2 := Aside0.mk hb
        have BS2 := Aside0.mk bs
        have BC2 := Aside0.mk bc
        clear hb bs bc
        have ks2_6 : World.cell? w2 ⟨w.heap.size, 6, none⟩ = some (.slice A6 l0_6.length c6) := (blk_cell BS2.out 6).trans rfl
        have ks2_7 : World.cell? w2 ⟨w.heap.size, 7, none⟩ = some (.slice A7 l0_7.length c7) := (blk_cell BS2.out 7).trans rfl
        have ks2_8 : World.cell? w2 ⟨w.heap.size, 8, none⟩ = some (.slice A8 l0_8.length c8) := (blk_cell BS2.out 8).trans rfl
        have ks2_9 : World.cell? w2 ⟨w.heap.size, 9, none⟩ = some (.slice A9 l0_9.length c9) := (blk_cell BS2.out 9).trans rfl
        have kc2_0 : World.cell? w2 ⟨w.heap.size + 1, 0, none⟩ = some (.int .i64 a0_0) := (blk_cell BC2.out 0).trans rfl
        have kc2_1 : World.cell? w2 ⟨w.heap.size + 1, 1, none⟩ = some (.int .i64 a0_1) := (blk_cell BC2.out 1).trans rfl
        have kc2_2 : World.cell? w2 ⟨w.heap.size + 1, 2, none⟩ = some (.int .i64 a0_2) := (blk_cell BC2.out 2).trans rfl
        have kc2_3 : World.cell? w2 ⟨w.heap.size + 1, 3, none⟩ = some (.int .i64 a0_3) := (blk_cell BC2.out 3).trans rfl
        have kc2_4 : World.cell? w2 ⟨w.heap.size + 1, 4, none⟩ = some (.int .i64 a0_4) := (blk_cell BC2.out 4).trans rfl
        have kc2_5 : World.cell? w2 ⟨w.heap.size + 1, 5, none⟩ = some (.int .i64 a0_5) := (blk_cell BC2.out 5).trans rfl
        go_wp2_with (first | (go_at_call 34; refine (G34.out w2).mono ?_; rintro e w3 ⟨rfl, hb⟩; have HB3 := Aside0.mk (below_step HB2.out hb); have BS3 := Aside0.mk (blk_below BS2.out hb); have BC3 := Aside0.mk (blk_below BC2.out hb); clear hb; clear ks2_6 ks2_7 ks2_8 ks2_9 kc2_0 kc2_1 kc2_2 kc2_3 kc2_4 kc2_5; have ks3_6 : World.cell? w3 ⟨w.heap.size, 6, none⟩ = some (.slice A6 l0_6.length c6) := (blk_cell BS3.out 6).trans rfl; have ks3_7 : World.cell? w3 ⟨w.heap.size, 7, none⟩ = some (.slice A7 l0_7.length c7) := (blk_cell BS3.out 7).trans rfl; have ks3_8 : World.cell? w3 ⟨w.heap.size, 8, none⟩ = some (.slice A8 l0_8.length c8) := (blk_cell BS3.out 8).trans rfl; have ks3_9 : World.cell? w3 ⟨w.heap.size, 9, none⟩ = some (.slice A9 l0_9.length c9) := (blk_cell BS3.out 9).trans rfl; have kc3_0 : World.cell? w3 ⟨w.heap.size + 1, 0, none⟩ = some (.int .i64 a0_0) := (blk_cell BC3.out 0).trans rfl; have kc3_1 : World.cell? w3 ⟨w.heap.size + 1, 1, none⟩ = some (.int .i64 a0_1) := (blk_cell BC3.out 1).trans rfl; have kc3_2 : World.cell? w3 ⟨w.heap.size + 1, 2, none⟩ = some (.int .i64 a0_2) := (blk_cell BC3.out 2).trans rfl; have kc3_3 : World.cell? w3 ⟨w.heap.size + 1, 3, none⟩ = some (.int .i64 a0_3) := (blk_cell BC3.out 3).trans rfl; have kc3_4 : World.cell? w3 ⟨w.heap.size + 1, 4, none⟩ = some (.int .i64 a0_4) := (blk_cell BC3.out 4).trans rfl; have kc3_5 : World.cell? w3 ⟨w.heap.size + 1, 5, none⟩ = some (.int .i64 a0_5) := (blk_cell BC3.out 5).trans rfl) | (go_at_call 35; refine (G35.out w3 HB3.out).mono ?_; rintro e w4 ⟨rfl, hb⟩; have HB4 := Aside0.mk (below_step HB3.out hb); have BS4 := Aside0.mk (blk_below BS3.out hb); have BC4 := Aside0.mk (blk_below BC3.out hb); clear hb; clear ks3_6 ks3_7 ks3_8 ks3_9 kc3_0 kc3_1 kc3_2 kc3_3 kc3_4 kc3_5; have ks4_6 : World.cell? w4 ⟨w.heap.size, 6, none⟩ = some (.slice A6 l0_6.length c6) := (blk_cell BS4.out 6).trans rfl; have ks4_7 : World.cell? w4 ⟨w.heap.size, 7, none⟩ = some (.slice A7 l0_7.length c7) := (blk_cell BS4.out 7).trans rfl; have ks4_8 : World.cell? w4 ⟨w.heap.size, 8, none⟩ = some (.slice A8 l0_8.length c8) := (blk_cell BS4.out 8).trans rfl; have ks4_9 : World.cell? w4 ⟨w.heap.size, 9, none⟩ = some (.slice A9 l0_9.length c9) := (blk_cell BS4.out 9).trans rfl; have kc4_0 : World.cell? w4 ⟨w.heap.size + 1, 0, none⟩ = some (.int .i64 a0_0) := (blk_cell BC4.out 0).trans rfl; have kc4_1 : World.cell? w4 ⟨w.heap.size + 1, 1, none⟩ = some (.int .i64 a0_1) := (blk_cell BC4.out 1).trans rfl; have kc4_2 : World.cell? w4 ⟨w.heap.size + 1, 2, none⟩ = some (.int .i64 a0_2) := (blk_cell BC4.out 2).trans rfl; have kc4_3 : World.cell? w4 ⟨w.heap.size + 1, 3, none⟩ = some (.int .i64 a0_3) := (blk_cell BC4.out 3).trans rfl; have kc4_4 : World.cell? w4 ⟨w.heap.size + 1, 4, none⟩ = some (.int .i64 a0_4) := (blk_cell BC4.out 4).trans rfl; have kc4_5 : World.cell? w4 ⟨w.heap.size + 1, 5, none⟩ = some (.int .i64 a0_5) := (blk_cell BC4.out 5).trans rfl))
        go_ret
        exact ⟨by simp, HB4.out⟩
      have f_len8 : ((l0_8.length : Int) == a0_1) = true := beq_iff_eq.2 h_len8
      have g_len8 : decide ((l0_8.length : Int) = a0_1) = true := decide_eq_true h_len8
      clear h_len8
      by_cases h_len7 : (l0_7.length : Int) ≤ 255
      rotate_left
      · have g_len7 : decide ((l0_7.length : Int) ≤ 255) = false := decide_eq_false h_len7
        clear h_len7
        have E : Aside0 ((true && decide ((l0_6.length : Int) = a0_0) && decide (wrap64 (2 * a0_0) ≤ a0_2) && true && decide ((l0_8.length : Int) = a0_1) && decide ((l0_7.length : Int) ≤ 255) && b36 && b37) = false) := ⟨by rw [g_len6, g_rec, g_len8, g_len7]; simp⟩
        rw [E.out]
        go_enter Try.func17, Try.ntmps17
        go_upto_region 2 with (fail)
        have hb := below_alloc (below_alloc (Below.refl w.heap.size w) (.cells #[.int .i64 a0_0, .int .i64 a0_1, .int .i64 a0_2, .int .i64 a0_3, .int .i64 a0_4, .int .i64 a0_5, .slice A6 l0_6.length c6, .slice A7 l0_7.length c7, .slice A8 l0_8.length c8, .slice A9 l0_9.length c9] 30)) (.cells #[.int .i64 a0_0, .int .i64 a0_1, .int .i64 a0_2, .int .i64 a0_3, .int .i64 a0_4, .int .i64 a0_5] 25)
        have bs : ((w.alloc (.cells #[.int .i64 a0_0, .int .i64 a0_1, .int .i64 a0_2, .int .i64 a0_3, .int .i64 a0_4, .int .i64 a0_5, .slice A6 l0_6.length c6, .slice A7 l0_7.length c7, .slice A8 l0_8.length c8, .slice A9 l0_9.length c9] 30)).alloc (.cells #[.int .i64 a0_0, .int .i64 a0_1, .int .i64 a0_2, .int .i64 a0_3, .int .i64 a0_4, .int .i64 a0_5] 25)).heap[w.heap.size]? = some (.cells #[.int .i64 a0_0, .int .i64 a0_1, .int .i64 a0_2, .int .i64 a0_3, .int .i64 a0_4, .int .i64 a0_5, .slice A6 l0_6.length c6, .slice A7 l0_7.length c7, .slice A8 l0_8.length c8, .slice A9 l0_9.length c9] 30 (0, 0)) := new_blk1 w _ _
        have bc : ((w.alloc (.cells #[.int .i64 a0_0, .int .i64 a0_1, .int .i64 a0_2, .int .i64 a0_3, .int .i64 a0_4, .int .i64 a0_5, .slice A6 l0_6.length c6, .slice A7 l0_7.length c7, .slice A8 l0_8.length c8, .slice A9 l0_9.length c9] 30)).alloc (.cells #[.int .i64 a0_0, .int .i64 a0_1, .int .i64 a0_2, .int .i64 a0_3, .int .i64 a0_4, .int .i64 a0_5] 25)).heap[w.heap.size + 1]? = some (.cells #[.int .i64 a0_0, .int .i64 a0_1, .int .i64 a0_2, .int .i64 a0_3, .int .i64 a0_4, .int .i64 a0_5] 25 (0, 0)) := new_blk2 w _ _
        generalize ((w.alloc (.cells #[.int .i64 a0_0, .int .i64 a0_1, .int .i64 a0_2, .int .i64 a0_3, .int .i64 a0_4, .int .i64 a0_5, .slice A6 l0_6.length c6, .slice A7 l0_7.length c7, .slice A8 l0_8.length c8, .slice A9 l0_9.length c9] 30)).alloc (.cells #[.int .i64 a0_0, .int .i64 a0_1, .int .i64 a0_2, .int .i64 a0_3, .int .i64 a0_4, .int .i64 a0_5] 25)) = w2 at hb bs bc ⊢
        have HB2 := Aside0.mk hb
        have BS2 := Aside0.mk bs
        have BC2 := Aside0.mk bc
        clear hb bs bc
        have ks2_6 : World.cell? w2 ⟨w.heap.size, 6, none⟩ = some (.slice A6 l0_6.length c6) := (blk_cell BS2.out 6).trans rfl
        have ks2_7 : World.cell? w2 ⟨w.heap.size, 7, none⟩ = some (.slice A7 l0_7.length c7) := (blk_cell BS2.out 7).trans rfl
        have ks2_8 : World.cell? w2 ⟨w.heap.size, 8, none⟩ = some (.slice A8 l0_8.length c8) := (blk_cell BS2.out 8).trans rfl
        have ks2_9 : World.cell? w2 ⟨w.heap.size, 9, none⟩ = some (.slice A9 l0_9.length c9) := (blk_cell BS2.out 9).trans rfl
        have kc2_0 : World.cell? w2 ⟨w.heap.size + 1, 0, none⟩ = some (.int .i64 a0_0) := (blk_cell BC2.out 0).trans rfl
        have kc2_1 : World.cell? w2 ⟨w.heap.size + 1, 1, none⟩ = some (.int .i64 a0_1) := (blk_cell BC2.out 1).trans rfl
        have kc2_2 : World.cell? w2 ⟨w.heap.size + 1, 2, none⟩ = some (.int .i64 a0_2) := (blk_cell BC2.out 2).trans rfl
        have kc2_3 : World.cell? w2 ⟨w.heap.size + 1, 3, none⟩ = some (.int .i64 a0_3) := (blk_cell BC2.out 3).trans rfl
        have kc2_4 : World.cell? w2 ⟨w.heap.size + 1, 4, none⟩ = some (.int .i64 a0_4) := (blk_cell BC2.out 4).trans rfl
        have kc2_5 : World.cell? w2 ⟨w.heap.size + 1, 5, none⟩ = some (.int .i64 a0_5) := (blk_cell BC2.out 5).trans rfl
        go_wp2_with (first | (go_at_call 34; refine (G34.out w2).mono ?_; rintro e w3 ⟨rfl, hb⟩; have HB3 := Aside0.mk (below_step HB2.out hb); have BS3 := Aside0.mk (blk_below BS2.out hb); have BC3 := Aside0.mk (blk_below BC2.out hb); clear hb; clear ks2_6 ks2_7 ks2_8 ks2_9 kc2_0 kc2_1 kc2_2 kc2_3 kc2_4 kc2_5; have ks3_6 : World.cell? w3 ⟨w.heap.size, 6, none⟩ = some (.slice A6 l0_6.length c6) := (blk_cell BS3.out 6).trans rfl; have ks3_7 : World.cell? w3 ⟨w.heap.size, 7, none⟩ = some (.slice A7 l0_7.length c7) := (blk_cell BS3.out 7).trans rfl; have ks3_8 : World.cell? w3 ⟨w.heap.size, 8, none⟩ = some (.slice A8 l0_8.length c8) := (blk_cell BS3.out 8).trans rfl; have ks3_9 : World.cell? w3 ⟨w.heap.size, 9, none⟩ = some (.slice A9 l0_9.length c9) := (blk_cell BS3.out 9).trans rfl; have kc3_0 : World.cell? w3 ⟨w.heap.size + 1, 0, none⟩ = some (.int .i64 a0_0) := (blk_cell BC3.out 0).trans rfl; have kc3_1 : World.cell? w3 ⟨w.heap.size + 1, 1, none⟩ = some (.int .i64 a0_1) := (blk_cell BC3.out 1).trans rfl; have kc3_2 : World.cell? w3 ⟨w.heap.size + 1, 2, none⟩ = some (.int .i64 a0_2) := (blk_cell BC3.out 2).trans rfl; have kc3_3 : World.cell? w3 ⟨w.heap.size + 1, 3, none⟩ = some (.int .i64 a0_3) := (blk_cell BC3.out 3).trans rfl; have kc3_4 : World.cell? w3 ⟨w.heap.size + 1, 4, none⟩ = some (.int .i64 a0_4) := (blk_cell BC3.out 4).trans rfl; have kc3_5 : World.cell? w3 ⟨w.heap.size + 1, 5, none⟩ = some (.int .i64 a0_5) := (blk_cell BC3.out 5).trans rfl) | (go_at_call 35; refine (G35.out w3 HB3.out).mono ?_; rintro e w4 ⟨rfl, hb⟩; have HB4 := Aside0.mk (below_step HB3.out hb); have BS4 := Aside0.mk (blk_below BS3.out hb); have BC4 := Aside0.mk (blk_below BC3.out hb); clear hb; clear ks3_6 ks3_7 ks3_8 ks3_9 kc3_0 kc3_1 kc3_2 kc3_3 kc3_4 kc3_5; have ks4_6 : World.cell? w4 ⟨w.heap.size, 6, none⟩ = some (.slice A6 l0_6.length c6) := (blk_cell BS4.out 6).trans rfl; have ks4_7 : World.cell? w4 ⟨w.heap.size, 7, none⟩ = some (.slice A7 l0_7.length c7) := (blk_cell BS4.out 7).trans rfl; have ks4_8 : World.cell? w4 ⟨w.heap.size, 8, none⟩ = some (.slice A8 l0_8.length c8) := (blk_cell BS4.out 8).trans rfl; have ks4_9 : World.cell? w4 ⟨w.heap.size, 9, none⟩ = some (.slice A9 l0_9.length c9) := (blk_cell BS4.out 9).trans rfl; have kc4_0 : World.cell? w4 ⟨w.heap.size + 1, 0, none⟩ = some (.int .i64 a0_0) := (blk_cell BC4.out 0).trans rfl; have kc4_1 : World.cell? w4 ⟨w.heap.size + 1, 1, none⟩ = some (.int .i64 a0_1) := (blk_cell BC4.out 1).trans rfl; have kc4_2 : World.cell? w4 ⟨w.heap.size + 1, 2, none⟩ = some (.int .i64 a0_2) := (blk_cell BC4.out 2).trans rfl; have kc4_3 : World.cell? w4 ⟨w.heap.size + 1, 3, none⟩ = some (.int .i64 a0_3) := (blk_cell BC4.out 3).trans rfl; have kc4_4 : World.cell? w4 ⟨w.heap.size + 1, 4, none⟩ = some (.int .i64 a0_4) := (blk_cell BC4.out 4).trans rfl; have kc4_5 : World.cell? w4 ⟨w.heap.size + 1, 5, none⟩ = some (.int .i64 a0_5) := (blk_cell BC4.out 5).trans rfl))
        go_ret
        exact ⟨by simp, HB4.out⟩
      have g_len7 : decide ((l0_7.length : Int) ≤ 255) = true := decide_eq_true h_len7
      clear h_len7
      cases b36 with
      | false =>
        have E : Aside0 ((true && decide ((l0_6.length : Int) = a0_0) && decide (wrap64 (2 * a0_0) ≤ a0_2) && true && decide ((l0_8.length : Int) = a0_1) && decide ((l0_7.length : Int) ≤ 255) && false && b37) = false) := ⟨by rw [g_len6, g_rec, g_len8, g_len7]; simp⟩
        rw [E.out]
        go_enter Try.func17, Try.ntmps17
        go_upto_region 2 with (fail)
        have hb := below_alloc (below_alloc (Below.refl w.heap.size w) (.cells #[.int .i64 a0_0, .int .i64 a0_1, .int .i64 a0_2, .int .i64 a0_3, .int .i64 a0_4, .int .i64 a0_5, .slice A6 l0_6.length c6, .slice A7 l0_7.length c7, .slice A8 l0_8.length c8, .slice A9 l0_9.length c9] 30)) (.cells #[.int .i64 a0_0, .int .i64 a0_1, .int .i64 a0_2, .int .i64 a0_3, .int .i64 a0_4, .int .i64 a0_5] 25)
        have bs : ((w.alloc (.cells #[.int .i64 a0_0, .int .i64 a0_1, .int .i64 a0_2, .int .i64 a0_3, .int .i64 a0_4, .int .i64 a0_5, .slice A6 l0_6.length c6, .slice A7 l0_7.length c7, .slice A8 l0_8.length c8, .slice A9 l0_9.length c9] 30)).alloc (.cells #[.int .i64 a0_0, .int .i64 a0_1, .int .i64 a0_2, .int .i64 a0_3, .int .i64 a0_4, .int .i64 a0_5] 25)).heap[w.heap.size]? = some (.cells #[.int .i64 a0_0, .int .i64 a0_1, .int .i64 a0_2, .int .i64 a0_3, .int .i64 a0_4, .int .i64 a0_5, .slice A6 l0_6.length c6, .slice A7 l0_7.length c7, .slice A8 l0_8.length c8, .slice A9 l0_9.length c9] 30 (0, 0)) := new_blk1 w _ _
        have bc : ((w.alloc (.cells #[.int .i64 a0_0, .int .i64 a0_1, .int .i64 a0_2, .int .i64 a0_3, .int .i64 a0_4, .int .i64 a0_5, .slice A6 l0_6.length c6, .slice A7 l0_7.length c7, .slice A8 l0_8.length c8, .slice A9 l0_9.length c9] 30)).alloc (.cells #[.int .i64 a0_0, .int .i64 a0_1, .int .i64 a0_2, .int .i64 a0_3, .int .i64 a0_4, .int .i64 a0_5] 25)).heap[w.heap.size + 1]? = some (.cells #[.int .i64 a0_0, .int .i64 a0_1, .int .i64 a0_2, .int .i64 a0_3, .int .i64 a0_4, .int .i64 a0_5] 25 (0, 0)) := new_blk2 w _ _
        generalize ((w.alloc (.cells #[.int .i64 a0_0, .int .i64 a0_1, .int .i64 a0_2, .int .i64 a0_3, .int .i64 a0_4, .int .i64 a0_5, .slice A6 l0_6.length c6, .slice A7 l0_7.length c7, .slice A8 l0_8.length c8, .slice A9 l0_9.length c9] 30)).alloc (.cells #[.int .i64 a0_0, .int .i64 a0_1, .int .i64 a0_2, .int .i64 a0_3, .int .i64 a0_4, .int .i64 a0_5] 25)) = w2 at hb bs bc ⊢
        have HB2 := Aside0.mk hb
        have BS2 := Aside0.mk bs
        have BC2 := Aside0.mk bc
        clear hb bs bc
        have ks2_6 : World.cell? w2 ⟨w.heap.size, 6, none⟩ = some (.slice A6 l0_6.length c6) := (blk_cell BS2.out 6).trans rfl
        have ks2_7 : World.cell? w2 ⟨w.heap.size, 7, none⟩ = some (.slice A7 l0_7.length c7) := (blk_cell BS2.out 7).trans rfl
        have ks2_8 : World.cell? w2 ⟨w.heap.size, 8, none⟩ = some (.slice A8 l0_8.length c8) := (blk_cell BS2.out 8).trans rfl
        have ks2_9 : World.cell? w2 ⟨w.heap.size, 9, none⟩ = some (.slice A9 l0_9.length c9) := (blk_cell BS2.out 9).trans rfl
        have kc2_0 : World.cell? w2 ⟨w.heap.size + 1, 0, none⟩ = some (.int .i64 a0_0) := (blk_cell BC2.out 0).trans rfl
        have kc2_1 : World.cell? w2 ⟨w.heap.size + 1, 1, none⟩ = some (.int .i64 a0_1) := (blk_cell BC2.out 1).trans rfl
        have kc2_2 : World.cell? w2 ⟨w.heap.size + 1, 2, none⟩ = some (.int .i64 a0_2) := (blk_cell BC2.out 2).trans rfl
        have kc2_3 : World.cell? w2 ⟨w.heap.size + 1, 3, none⟩ = some (.int .i64 a0_3) := (blk_cell BC2.out 3).trans rfl
        have kc2_4 : World.cell? w2 ⟨w.heap.size + 1, 4, none⟩ = some (.int .i64 a0_4) := (blk_cell BC2.out 4).trans rfl
        have kc2_5 : World.cell? w2 ⟨w.heap.size + 1, 5, none⟩ = some (.int .i64 a0_5) := (blk_cell BC2.out 5).trans rfl
        go_wp2_with (first | (go_at_call 34; refine (G34.out w2).mono ?_; rintro e w3 ⟨rfl, hb⟩; have HB3 := Aside0.mk (below_step HB2.out hb); have BS3 := Aside0.mk (blk_below BS2.out hb); have BC3 := Aside0.mk (blk_below BC2.out hb); clear hb; clear ks2_6 ks2_7 ks2_8 ks2_9 kc2_0 kc2_1 kc2_2 kc2_3 kc2_4 kc2_5; have ks3_6 : World.cell? w3 ⟨w.heap.size, 6, none⟩ = some (.slice A6 l0_6.length c6) := (blk_cell BS3.out 6).trans rfl; have ks3_7 : World.cell? w3 ⟨w.heap.size, 7, none⟩ = some (.slice A7 l0_7.length c7) := (blk_cell BS3.out 7).trans rfl; have ks3_8 : World.cell? w3 ⟨w.heap.size, 8, none⟩ = some (.slice A8 l0_8.length c8) := (blk_cell BS3.out 8).trans rfl; have ks3_9 : World.cell? w3 ⟨w.heap.size, 9, none⟩ = some (.slice A9 l0_9.length c9) := (blk_cell BS3.out 9).trans rfl; have kc3_0 : World.cell? w3 ⟨w.heap.size + 1, 0, none⟩ = some (.int .i64 a0_0) := (blk_cell BC3.out 0).trans rfl; have kc3_1 : World.cell? w3 ⟨w.heap.size + 1, 1, none⟩ = some (.int .i64 a0_1) := (blk_cell BC3.out 1).trans rfl; have kc3_2 : World.cell? w3 ⟨w.heap.size + 1, 2, none⟩ = some (.int .i64 a0_2) := (blk_cell BC3.out 2).trans rfl; have kc3_3 : World.cell? w3 ⟨w.heap.size + 1, 3, none⟩ = some (.int .i64 a0_3) := (blk_cell BC3.out 3).trans rfl; have kc3_4 : World.cell? w3 ⟨w.heap.size + 1, 4, none⟩ = some (.int .i64 a0_4) := (blk_cell BC3.out 4).trans rfl; have kc3_5 : World.cell? w3 ⟨w.heap.size + 1, 5, none⟩ = some (.int .i64 a0_5) := (blk_cell BC3.out 5).trans rfl) | (go_at_call 35; refine (G35.out w3 HB3.out).mono ?_; rintro e w4 ⟨rfl, hb⟩; have HB4 := Aside0.mk (below_step HB3.out hb); have BS4 := Aside0.mk (blk_below BS3.out hb); have BC4 := Aside0.mk (blk_below BC3.out hb); clear hb; clear ks3_6 ks3_7 ks3_8 ks3_9 kc3_0 kc3_1 kc3_2 kc3_3 kc3_4 kc3_5; have ks4_6 : World.cell? w4 ⟨w.heap.size, 6, none⟩ = some (.slice A6 l0_6.length c6) := (blk_cell BS4.out 6).trans rfl; have ks4_7 : World.cell? w4 ⟨w.heap.size, 7, none⟩ = some (.slice A7 l0_7.length c7) := (blk_cell BS4.out 7).trans rfl; have ks4_8 : World.cell? w4 ⟨w.heap.size, 8, none⟩ = some (.slice A8 l0_8.length c8) := (blk_cell BS4.out 8).trans rfl; have ks4_9 : World.cell? w4 ⟨w.heap.size, 9, none⟩ = some (.slice A9 l0_9.length c9) := (blk_cell BS4.out 9).trans rfl; have kc4_0 : World.cell? w4 ⟨w.heap.size + 1, 0, none⟩ = some (.int .i64 a0_0) := (blk_cell BC4.out 0).trans rfl; have kc4_1 : World.cell? w4 ⟨w.heap.size + 1, 1, none⟩ = some (.int .i64 a0_1) := (blk_cell BC4.out 1).trans rfl; have kc4_2 : World.cell? w4 ⟨w.heap.size + 1, 2, none⟩ = some (.int .i64 a0_2) := (blk_cell BC4.out 2).trans rfl; have kc4_3 : World.cell? w4 ⟨w.heap.size + 1, 3, none⟩ = some (.int .i64 a0_3) := (blk_cell BC4.out 3).trans rfl; have kc4_4 : World.cell? w4 ⟨w.heap.size + 1, 4, none⟩ = some (.int .i64 a0_4) := (blk_cell BC4.out 4).trans rfl; have kc4_5 : World.cell? w4 ⟨w.heap.size + 1, 5, none⟩ = some (.int .i64 a0_5) := (blk_cell BC4.out 5).trans rfl) | (go_at_call 36; refine (G36.out w4 HB4.out).mono ?_; rintro e w5 ⟨rfl, hb⟩; have HB5 := Aside0.mk (below_step HB4.out hb); have BS5 := Aside0.mk (blk_below BS4.out hb); have BC5 := Aside0.mk (blk_below BC4.out hb); clear hb; clear ks4_6 ks4_7 ks4_8 ks4_9 kc4_0 kc4_1 kc4_2 kc4_3 kc4_4 kc4_5; have ks5_6 : World.cell? w5 ⟨w.heap.size, 6, none⟩ = some (.slice A6 l0_6.length c6) := (blk_cell BS5.out 6).trans rfl; have ks5_7 : World.cell? w5 ⟨w.heap.size, 7, none⟩ = some (.slice A7 l0_7.length c7) := (blk_cell BS5.out 7).trans rfl; have ks5_8 : World.cell? w5 ⟨w.heap.size, 8, none⟩ = some (.slice A8 l0_8.length c8) := (blk_cell BS5.out 8).trans rfl; have ks5_9 : World.cell? w5 ⟨w.heap.size, 9, none⟩ = some (.slice A9 l0_9.length c9) := (blk_cell BS5.out 9).trans rfl; have kc5_0 : World.cell? w5 ⟨w.heap.size + 1, 0, none⟩ = some (.int .i64 a0_0) := (blk_cell BC5.out 0).trans rfl; have kc5_1 : World.cell? w5 ⟨w.heap.size + 1, 1, none⟩ = some (.int .i64 a0_1) := (blk_cell BC5.out 1).trans rfl; have kc5_2 : World.cell? w5 ⟨w.heap.size + 1, 2, none⟩ = some (.int .i64 a0_2) := (blk_cell BC5.out 2).trans rfl; have kc5_3 : World.cell? w5 ⟨w.heap.size + 1, 3, none⟩ = some (.int .i64 a0_3) := (blk_cell BC5.out 3).trans rfl; have kc5_4 : World.cell? w5 ⟨w.heap.size + 1, 4, none⟩ = some (.int .i64 a0_4) := (blk_cell BC5.out 4).trans rfl; have kc5_5 : World.cell? w5 ⟨w.heap.size + 1, 5, none⟩ = some (.int .i64 a0_5) := (blk_cell BC5.out 5).trans rfl))
        go_ret
        exact ⟨by simp, HB5.out⟩
      | true =>
        cases b37 with
        | false =>
          have E : Aside0 ((true && decide ((l0_6.length : Int) = a0_0) && decide (wrap64 (2 * a0_0) ≤ a0_2) && true && decide ((l0_8.length : Int) = a0_1) && decide ((l0_7.length : Int) ≤ 255) && true && false) = false) := ⟨by rw [g_len6, g_rec, g_len8, g_len7]; simp⟩
          rw [E.out]
          go_enter Try.func17, Try.ntmps17
          go_upto_region 2 with (fail)
          have hb := below_alloc (below_alloc (Below.refl w.heap.size w) (.cells #[.int .i64 a0_0, .int .i64 a0_1, .int .i64 a0_2, .int .i64 a0_3, .int .i64 a0_4, .int .i64 a0_5, .slice A6 l0_6.length c6, .slice A7 l0_7.length c7, .slice A8 l0_8.length c8, .slice A9 l0_9.length c9] 30)) (.cells #[.int .i64 a0_0, .int .i64 a0_1, .int .i64 a0_2, .int .i64 a0_3, .int .i64 a0_4, .int .i64 a0_5] 25)
          have bs : ((w.alloc (.cells #[.int .i64 a0_0, .int .i64 a0_1, .int .i64 a0_2, .int .i64 a0_3, .int .i64 a0_4, .int .i64 a0_5, .slice A6 l0_6.length c6, .slice A7 l0_7.length c7, .slice A8 l0_8.length c8, .slice A9 l0_9.length c9] 30)).alloc (.cells #[.int .i64 a0_0, .int .i64 a0_1, .int .i64 a0_2, .int .i64 a0_3, .int .i64 a0_4, .int .i64 a0_5] 25)).heap[w.heap.size]? = some (.cells #[.int .i64 a0_0, .int .i64 a0_1, .int .i64 a0_2, .int .i64 a0_3, .int .i64 a0_4, .int .i64 a0_5, .slice A6 l0_6.length c6, .slice A7 l0_7.length c7, .slice A8 l0_8.length c8, .slice A9 l0_9.length c9] 30 (0, 0)) := new_blk1 w _ _
          have bc : ((w.alloc (.cells #[.int .i64 a0_0, .int .i64 a0_1, .int .i64 a0_2, .int .i64 a0_3, .int .i64 a0_4, .int .i64 a0_5, .slice A6 l0_6.length c6, .slice A7 l0_7.length c7, .slice A8 l0_8.length c8, .slice A9 l0_9.length c9] 30)).alloc (.cells #[.int .i64 a0_0, .int .i64 a0_1, .int .i64 a0_2, .int .i64 a0_3, .int .i64 a0_4, .int .i64 a0_5] 25)).heap[w.heap.size + 1]? = some (.cells #[.int .i64 a0_0, .int .i64 a0_1, .int .i64 a0_2, .int .i64 a0_3, .int .i64 a0_4, .int .i64 a0_5] 25 (0, 0)) := new_blk2 w _ _
          generalize ((w.alloc (.cells #[.int .i64 a0_0, .int .i64 a0_1, .int .i64 a0_2, .int .i64 a0_3, .int .i64 a0_4, .int .i64 a0_5, .slice A6 l0_6.length c6, .slice A7 l0_7.length c7, .slice A8 l0_8.length c8, .slice A9 l0_9.length c9] 30)).alloc (.cells #[.int .i64 a0_0, .int .i64 a0_1, .int .i64 a0_2, .int .i64 a0_3, .int .i64 a0_4, .int .i64 a0_5] 25)) = w2 at hb bs bc ⊢
          have HB2 := Aside0.mk hb
          have BS2 := Aside0.mk bs
          have BC2 := Aside0.mk bc
          clear hb bs bc
          have ks2_6 : World.cell? w2 ⟨w.heap.size, 6, none⟩ = some (.slice A6 l0_6.length c6) := (blk_cell BS2.out 6).trans rfl
          have ks2_7 : World.cell? w2 ⟨w.heap.size, 7, none⟩ = some (.slice A7 l0_7.length c7) := (blk_cell BS2.out 7).trans rfl
          have ks2_8 : World.cell? w2 ⟨w.heap.size, 8, none⟩ = some (.slice A8 l0_8.length c8) := (blk_cell BS2.out 8).trans rfl
          have ks2_9 : World.cell? w2 ⟨w.heap.size, 9, none⟩ = some (.slice A9 l0_9.length c9) := (blk_cell BS2.out 9).trans rfl
          have kc2_0 : World.cell? w2 ⟨w.heap.size + 1, 0, none⟩ = some (.int .i64 a0_0) := (blk_cell BC2.out 0).trans rfl
          have kc2_1 : World.cell? w2 ⟨w.heap.size + 1, 1, none⟩ = some (.int .i64 a0_1) := (blk_cell BC2.out 1).trans rfl
          have kc2_2 : World.cell? w2 ⟨w.heap.size + 1, 2, none⟩ = some (.int .i64 a0_2) := (blk_cell BC2.out 2).trans rfl
          have kc2_3 : World.cell? w2 ⟨w.heap.size + 1, 3, none⟩ = some (.int .i64 a0_3) := (blk_cell BC2.out 3).trans rfl
          have kc2_4 : World.cell? w2 ⟨w.heap.size + 1, 4, none⟩ = some (.int .i64 a0_4) := (blk_cell BC2.out 4).trans rfl
          have kc2_5 : World.cell? w2 ⟨w.heap.size + 1, 5, none⟩ = some (.int .i64 a0_5) := (blk_cell BC2.out 5).trans rfl
          go_wp2_with (first | (go_at_call 34; refine (G34.out w2).mono ?_; rintro e w3 ⟨rfl, hb⟩; have HB3 := Aside0.mk (below_step HB2.out hb); have BS3 := Aside0.mk (blk_below BS2.out hb); have BC3 := Aside0.mk (blk_below BC2.out hb); clear hb; clear ks2_6 ks2_7 ks2_8 ks2_9 kc2_0 kc2_1 kc2_2 kc2_3 kc2_4 kc2_5; have ks3_6 : World.cell? w3 ⟨w.heap.size, 6, none⟩ = some (.slice A6 l0_6.length c6) := (blk_cell BS3.out 6).trans rfl; have ks3_7 : World.cell? w3 ⟨w.heap.size, 7, none⟩ = some (.slice A7 l0_7.length c7) := (blk_cell BS3.out 7).trans rfl; have ks3_8 : World.cell? w3 ⟨w.heap.size, 8, none⟩ = some (.slice A8 l0_8.length c8) := (blk_cell BS3.out 8).trans rfl; have ks3_9 : World.cell? w3 ⟨w.heap.size, 9, none⟩ = some (.slice A9 l0_9.length c9) := (blk_cell BS3.out 9).trans rfl; have kc3_0 : World.cell? w3 ⟨w.heap.size + 1, 0, none⟩ = some (.int .i64 a0_0) := (blk_cell BC3.out 0).trans rfl; have kc3_1 : World.cell? w3 ⟨w.heap.size + 1, 1, none⟩ = some (.int .i64 a0_1) := (blk_cell BC3.out 1).trans rfl; have kc3_2 : World.cell? w3 ⟨w.heap.size + 1, 2, none⟩ = some (.int .i64 a0_2) := (blk_cell BC3.out 2).trans rfl; have kc3_3 : World.cell? w3 ⟨w.heap.size + 1, 3, none⟩ = some (.int .i64 a0_3) := (blk_cell BC3.out 3).trans rfl; have kc3_4 : World.cell? w3 ⟨w.heap.size + 1, 4, none⟩ = some (.int .i64 a0_4) := (blk_cell BC3.out 4).trans rfl; have kc3_5 : World.cell? w3 ⟨w.heap.size + 1, 5, none⟩ = some (.int .i64 a0_5) := (blk_cell BC3.out 5).trans rfl) | (go_at_call 35; refine (G35.out w3 HB3.out).mono ?_; rintro e w4 ⟨rfl, hb⟩; have HB4 := Aside0.mk (below_step HB3.out hb); have BS4 := Aside0.mk (blk_below BS3.out hb); have BC4 := Aside0.mk (blk_below BC3.out hb); clear hb; clear ks3_6 ks3_7 ks3_8 ks3_9 kc3_0 kc3_1 kc3_2 kc3_3 kc3_4 kc3_5; have ks4_6 : World.cell? w4 ⟨w.heap.size, 6, none⟩ = some (.slice A6 l0_6.length c6) := (blk_cell BS4.out 6).trans rfl; have ks4_7 : World.cell? w4 ⟨w.heap.size, 7, none⟩ = some (.slice A7 l0_7.length c7) := (blk_cell BS4.out 7).trans rfl; have ks4_8 : World.cell? w4 ⟨w.heap.size, 8, none⟩ = some (.slice A8 l0_8.length c8) := (blk_cell BS4.out 8).trans rfl; have ks4_9 : World.cell? w4 ⟨w.heap.size, 9, none⟩ = some (.slice A9 l0_9.length c9) := (blk_cell BS4.out 9).trans rfl; have kc4_0 : World.cell? w4 ⟨w.heap.size + 1, 0, none⟩ = some (.int .i64 a0_0) := (blk_cell BC4.out 0).trans rfl; have kc4_1 : World.cell? w4 ⟨w.heap.size + 1, 1, none⟩ = some (.int .i64 a0_1) := (blk_cell BC4.out 1).trans rfl; have kc4_2 : World.cell? w4 ⟨w.heap.size + 1, 2, none⟩ = some (.int .i64 a0_2) := (blk_cell BC4.out 2).trans rfl; have kc4_3 : World.cell? w4 ⟨w.heap.size + 1, 3, none⟩ = some (.int .i64 a0_3) := (blk_cell BC4.out 3).trans rfl; have kc4_4 : World.cell? w4 ⟨w.heap.size + 1, 4, none⟩ = some (.int .i64 a0_4) := (blk_cell BC4.out 4).trans rfl; have kc4_5 : World.cell? w4 ⟨w.heap.size + 1, 5, none⟩ = some (.int .i64 a0_5) := (blk_cell BC4.out 5).trans rfl) | (go_at_call 36; refine (G36.out w4 HB4.out).mono ?_; rintro e w5 ⟨rfl, hb⟩; have HB5 := Aside0.mk (below_step HB4.out hb); have BS5 := Aside0.mk (blk_below BS4.out hb); have BC5 := Aside0.mk (blk_below BC4.out hb); clear hb; clear ks4_6 ks4_7 ks4_8 ks4_9 kc4_0 kc4_1 kc4_2 kc4_3 kc4_4 kc4_5; have ks5_6 : World.cell? w5 ⟨w.heap.size, 6, none⟩ = some (.slice A6 l0_6.length c6) := (blk_cell BS5.out 6).trans rfl; have ks5_7 : World.cell? w5 ⟨w.heap.size, 7, none⟩ = some (.slice A7 l0_7.length c7) := (blk_cell BS5.out 7).trans rfl; have ks5_8 : World.cell? w5 ⟨w.heap.size, 8, none⟩ = some (.slice A8 l0_8.length c8) := (blk_cell BS5.out 8).trans rfl; have ks5_9 : World.cell? w5 ⟨w.heap.size, 9, none⟩ = some (.slice A9 l0_9.length c9) := (blk_cell BS5.out 9).trans rfl; have kc5_0 : World.cell? w5 ⟨w.heap.size + 1, 0, none⟩ = some (.int .i64 a0_0) := (blk_cell BC5.out 0).trans rfl; have kc5_1 : World.cell? w5 ⟨w.heap.size + 1, 1, none⟩ = some (.int .i64 a0_1) := (blk_cell BC5.out 1).trans rfl; have kc5_2 : World.cell? w5 ⟨w.heap.size + 1, 2, none⟩ = some (.int .i64 a0_2) := (blk_cell BC5.out 2).trans rfl; have kc5_3 : World.cell? w5 ⟨w.heap.size + 1, 3, none⟩ = some (.int .i64 a0_3) := (blk_cell BC5.out 3).trans rfl; have kc5_4 : World.cell? w5 ⟨w.heap.size + 1, 4, none⟩ = some (.int .i64 a0_4) := (blk_cell BC5.out 4).trans rfl; have kc5_5 : World.cell? w5 ⟨w.heap.size + 1, 5, none⟩ = some (.int .i64 a0_5) := (blk_cell BC5.out 5).trans rfl) | (go_at_call 37; refine (G37.out w5 HB5.out kc5_0).mono ?_; rintro e w6 ⟨rfl, hb⟩; have HB6 := Aside0.mk (below_step HB5.out hb); have BS6 := Aside0.mk (blk_below BS5.out hb); have BC6 := Aside0.mk (blk_below BC5.out hb); clear hb; clear ks5_6 ks5_7 ks5_8 ks5_9 kc5_0 kc5_1 kc5_2 kc5_3 kc5_4 kc5_5; have ks6_6 : World.cell? w6 ⟨w.heap.size, 6, none⟩ = some (.slice A6 l0_6.length c6) := (blk_cell BS6.out 6).trans rfl; have ks6_7 : World.cell? w6 ⟨w.heap.size, 7, none⟩ = some (.slice A7 l0_7.length c7) := (blk_cell BS6.out 7).trans rfl; have ks6_8 : World.cell? w6 ⟨w.heap.size, 8, none⟩ = some (.slice A8 l0_8.length c8) := (blk_cell BS6.out 8).trans rfl; have ks6_9 : World.cell? w6 ⟨w.heap.size, 9, none⟩ = some (.slice A9 l0_9.length c9) := (blk_cell BS6.out 9).trans rfl; have kc6_0 : World.cell? w6 ⟨w.heap.size + 1, 0, none⟩ = some (.int .i64 a0_0) := (blk_cell BC6.out 0).trans rfl; have kc6_1 : World.cell? w6 ⟨w.heap.size + 1, 1, none⟩ = some (.int .i64 a0_1) := (blk_cell BC6.out 1).trans rfl; have kc6_2 : World.cell? w6 ⟨w.heap.size + 1, 2, none⟩ = some (.int .i64 a0_2) := (blk_cell BC6.out 2).trans rfl; have kc6_3 : World.cell? w6 ⟨w.heap.size + 1, 3, none⟩ = some (.int .i64 a0_3) := (blk_cell BC6.out 3).trans rfl; have kc6_4 : World.cell? w6 ⟨w.heap.size + 1, 4, none⟩ = some (.int .i64 a0_4) := (blk_cell BC6.out 4).trans rfl; have kc6_5 : World.cell? w6 ⟨w.heap.size + 1, 5, none⟩ = some (.int .i64 a0_5) := (blk_cell BC6.out 5).trans rfl))
          go_ret
          exact ⟨by simp, HB6.out⟩
        | true =>
          have E : Aside0 ((true && decide ((l0_6.length : Int) = a0_0) && decide (wrap64 (2 * a0_0) ≤ a0_2) && true && decide ((l0_8.length : Int) = a0_1) && decide ((l0_7.length : Int) ≤ 255) && true && true) = true) := ⟨by rw [g_len6, g_rec, g_len8, g_len7]; simp⟩
          rw [E.out]
          go_enter Try.func17, Try.ntmps17
          go_upto_region 2 with (fail)
          have hb := below_alloc (below_alloc (Below.refl w.heap.size w) (.cells #[.int .i64 a0_0, .int .i64 a0_1, .int .i64 a0_2, .int .i64 a0_3, .int .i64 a0_4, .int .i64 a0_5, .slice A6 l0_6.length c6, .slice A7 l0_7.length c7, .slice A8 l0_8.length c8, .slice A9 l0_9.length c9] 30)) (.cells #[.int .i64 a0_0, .int .i64 a0_1, .int .i64 a0_2, .int .i64 a0_3, .int .i64 a0_4, .int .i64 a0_5] 25)
          have bs : ((w.alloc (.cells #[.int .i64 a0_0, .int .i64 a0_1, .int .i64 a0_2, .int .i64 a0_3, .int .i64 a0_4, .int .i64 a0_5, .slice A6 l0_6.length c6, .slice A7 l0_7.length c7, .slice A8 l0_8.length c8, .slice A9 l0_9.length c9] 30)).alloc (.cells #[.int .i64 a0_0, .int .i64 a0_1, .int .i64 a0_2, .int .i64 a0_3, .int .i64 a0_4, .int .i64 a0_5] 25)).heap[w.heap.size]? = some (.cells #[.int .i64 a0_0, .int .i64 a0_1, .int .i64 a0_2, .int .i64 a0_3, .int .i64 a0_4, .int .i64 a0_5, .slice A6 l0_6.length c6, .slice A7 l0_7.length c7, .slice A8 l0_8.length c8, .slice A9 l0_9.length c9] 30 (0, 0)) := new_blk1 w _ _
          have bc : ((w.alloc (.cells #[.int .i64 a0_0, .int .i64 a0_1, .int .i64 a0_2, .int .i64 a0_3, .int .i64 a0_4, .int .i64 a0_5, .slice A6 l0_6.length c6, .slice A7 l0_7.length c7, .slice A8 l0_8.length c8, .slice A9 l0_9.length c9] 30)).alloc (.cells #[.int .i64 a0_0, .int .i64 a0_1, .int .i64 a0_2, .int .i64 a0_3, .int .i64 a0_4, .int .i64 a0_5] 25)).heap[w.heap.size + 1]? = some (.cells #[.int .i64 a0_0, .int .i64 a0_1, .int .i64 a0_2, .int .i64 a0_3, .int .i64 a0_4, .int .i64 a0_5] 25 (0, 0)) := new_blk2 w _ _
          generalize ((w.alloc (.cells #[.int .i64 a0_0, .int .i64 a0_1, .int .i64 a0_2, .int .i64 a0_3, .int .i64 a0_4, .int .i64 a0_5, .slice A6 l0_6.length c6, .slice A7 l0_7.length c7, .slice A8 l0_8.length c8, .slice A9 l0_9.length c9] 30)).alloc (.cells #[.int .i64 a0_0, .int .i64 a0_1, .int .i64 a0_2, .int .i64 a0_3, .int .i64 a0_4, .int .i64 a0_5] 25)) = w2 at hb bs bc ⊢
          have HB2 := Aside0.mk hb
          have BS2 := Aside0.mk bs
          have BC2 := Aside0.mk bc
          clear hb bs bc
          have ks2_6 : World.cell? w2 ⟨w.heap.size, 6, none⟩ = some (.slice A6 l0_6.length c6) := (blk_cell BS2.out 6).trans rfl
          have ks2_7 : World.cell? w2 ⟨w.heap.size, 7, none⟩ = some (.slice A7 l0_7.length c7) := (blk_cell BS2.out 7).trans rfl
          have ks2_8 : World.cell? w2 ⟨w.heap.size, 8, none⟩ = some (.slice A8 l0_8.length c8) := (blk_cell BS2.out 8).trans rfl
          have ks2_9 : World.cell? w2 ⟨w.heap.size, 9, none⟩ = some (.slice A9 l0_9.length c9) := (blk_cell BS2.out 9).trans rfl
          have kc2_0 : World.cell? w2 ⟨w.heap.size + 1, 0, none⟩ = some (.int .i64 a0_0) := (blk_cell BC2.out 0).trans rfl
          have kc2_1 : World.cell? w2 ⟨w.heap.size + 1, 1, none⟩ = some (.int .i64 a0_1) := (blk_cell BC2.out 1).trans rfl
          have kc2_2 : World.cell? w2 ⟨w.heap.size + 1, 2, none⟩ = some (.int .i64 a0_2) := (blk_cell BC2.out 2).trans rfl
          have kc2_3 : World.cell? w2 ⟨w.heap.size + 1, 3, none⟩ = some (.int .i64 a0_3) := (blk_cell BC2.out 3).trans rfl
          have kc2_4 : World.cell? w2 ⟨w.heap.size + 1, 4, none⟩ = some (.int .i64 a0_4) := (blk_cell BC2.out 4).trans rfl
          have kc2_5 : World.cell? w2 ⟨w.heap.size + 1, 5, none⟩ = some (.int .i64 a0_5) := (blk_cell BC2.out 5).trans rfl
          go_wp2_with (first | (go_at_call 34; refine (G34.out w2).mono ?_; rintro e w3 ⟨rfl, hb⟩; have HB3 := Aside0.mk (below_step HB2.out hb); have BS3 := Aside0.mk (blk_below BS2.out hb); have BC3 := Aside0.mk (blk_below BC2.out hb); clear hb; clear ks2_6 ks2_7 ks2_8 ks2_9 kc2_0 kc2_1 kc2_2 kc2_3 kc2_4 kc2_5; have ks3_6 : World.cell? w3 ⟨w.heap.size, 6, none⟩ = some (.slice A6 l0_6.length c6) := (blk_cell BS3.out 6).trans rfl; have ks3_7 : World.cell? w3 ⟨w.heap.size, 7, none⟩ = some (.slice A7 l0_7.length c7) := (blk_cell BS3.out 7).trans rfl; have ks3_8 : World.cell? w3 ⟨w.heap.size, 8, none⟩ = some (.slice A8 l0_8.length c8) := (blk_cell BS3.out 8).trans rfl; have ks3_9 : World.cell? w3 ⟨w.heap.size, 9, none⟩ = some (.slice A9 l0_9.length c9) := (blk_cell BS3.out 9).trans rfl; have kc3_0 : World.cell? w3 ⟨w.heap.size + 1, 0, none⟩ = some (.int .i64 a0_0) := (blk_cell BC3.out 0).trans rfl; have kc3_1 : World.cell? w3 ⟨w.heap.size + 1, 1, none⟩ = some (.int .i64 a0_1) := (blk_cell BC3.out 1).trans rfl; have kc3_2 : World.cell? w3 ⟨w.heap.size + 1, 2, none⟩ = some (.int .i64 a0_2) := (blk_cell BC3.out 2).trans rfl; have kc3_3 : World.cell? w3 ⟨w.heap.size + 1, 3, none⟩ = some (.int .i64 a0_3) := (blk_cell BC3.out 3).trans rfl; have kc3_4 : World.cell? w3 ⟨w.heap.size + 1, 4, none⟩ = some (.int .i64 a0_4) := (blk_cell BC3.out 4).trans rfl; have kc3_5 : World.cell? w3 ⟨w.heap.size + 1, 5, none⟩ = some (.int .i64 a0_5) := (blk_cell BC3.out 5).trans rfl) | (go_at_call 35; refine (G35.out w3 HB3.out).mono ?_; rintro e w4 ⟨rfl, hb⟩; have HB4 := Aside0.mk (below_step HB3.out hb); have BS4 := Aside0.mk (blk_below BS3.out hb); have BC4 := Aside0.mk (blk_below BC3.out hb); clear hb; clear ks3_6 ks3_7 ks3_8 ks3_9 kc3_0 kc3_1 kc3_2 kc3_3 kc3_4 kc3_5; have ks4_6 : World.cell? w4 ⟨w.heap.size, 6, none⟩ = some (.slice A6 l0_6.length c6) := (blk_cell BS4.out 6).trans rfl; have ks4_7 : World.cell? w4 ⟨w.heap.size, 7, none⟩ = some (.slice A7 l0_7.length c7) := (blk_cell BS4.out 7).trans rfl; have ks4_8 : World.cell? w4 ⟨w.heap.size, 8, none⟩ = some (.slice A8 l0_8.length c8) := (blk_cell BS4.out 8).trans rfl; have ks4_9 : World.cell? w4 ⟨w.heap.size, 9, none⟩ = some (.slice A9 l0_9.length c9) := (blk_cell BS4.out 9).trans rfl; have kc4_0 : World.cell? w4 ⟨w.heap.size + 1, 0, none⟩ = some (.int .i64 a0_0) := (blk_cell BC4.out 0).trans rfl; have kc4_1 : World.cell? w4 ⟨w.heap.size + 1, 1, none⟩ = some (.int .i64 a0_1) := (blk_cell BC4.out 1).trans rfl; have kc4_2 : World.cell? w4 ⟨w.heap.size + 1, 2, none⟩ = some (.int .i64 a0_2) := (blk_cell BC4.out 2).trans rfl; have kc4_3 : World.cell? w4 ⟨w.heap.size + 1, 3, none⟩ = some (.int .i64 a0_3) := (blk_cell BC4.out 3).trans rfl; have kc4_4 : World.cell? w4 ⟨w.heap.size + 1, 4, none⟩ = some (.int .i64 a0_4) := (blk_cell BC4.out 4).trans rfl; have kc4_5 : World.cell? w4 ⟨w.heap.size + 1, 5, none⟩ = some (.int .i64 a0_5) := (blk_cell BC4.out 5).trans rfl) | (go_at_call 36; refine (G36.out w4 HB4.out).mono ?_; rintro e w5 ⟨rfl, hb⟩; have HB5 := Aside0.mk (below_step HB4.out hb); have BS5 := Aside0.mk (blk_below BS4.out hb); have BC5 := Aside0.mk (blk_below BC4.out hb); clear hb; clear ks4_6 ks4_7 ks4_8 ks4_9 kc4_0 kc4_1 kc4_2 kc4_3 kc4_4 kc4_5; have ks5_6 : World.cell? w5 ⟨w.heap.size, 6, none⟩ = some (.slice A6 l0_6.length c6) := (blk_cell BS5.out 6).trans rfl; have ks5_7 : World.cell? w5 ⟨w.heap.size, 7, none⟩ = some (.slice A7 l0_7.length c7) := (blk_cell BS5.out 7).trans rfl; have ks5_8 : World.cell? w5 ⟨w.heap.size, 8, none⟩ = some (.slice A8 l0_8.length c8) := (blk_cell BS5.out 8).trans rfl; have ks5_9 : World.cell? w5 ⟨w.heap.size, 9, none⟩ = some (.slice A9 l0_9.length c9) := (blk_cell BS5.out 9).trans rfl; have kc5_0 : World.cell? w5 ⟨w.heap.size + 1, 0, none⟩ = some (.int .i64 a0_0) := (blk_cell BC5.out 0).trans rfl; have kc5_1 : World.cell? w5 ⟨w.heap.size + 1, 1, none⟩ = some (.int .i64 a0_1) := (blk_cell BC5.out 1).trans rfl; have kc5_2 : World.cell? w5 ⟨w.heap.size + 1, 2, none⟩ = some (.int .i64 a0_2) := (blk_cell BC5.out 2).trans rfl; have kc5_3 : World.cell? w5 ⟨w.heap.size + 1, 3, none⟩ = some (.int .i64 a0_3) := (blk_cell BC5.out 3).trans rfl; have kc5_4 : World.cell? w5 ⟨w.heap.size + 1, 4, none⟩ = some (.int .i64 a0_4) := (blk_cell BC5.out 4).trans rfl; have kc5_5 : World.cell? w5 ⟨w.heap.size + 1, 5, none⟩ = some (.int .i64 a0_5) := (blk_cell BC5.out 5).trans rfl) | (go_at_call 37; refine (G37.out w5 HB5.out kc5_0).mono ?_; rintro e w6 ⟨rfl, hb⟩; have HB6 := Aside0.mk (below_step HB5.out hb); have BS6 := Aside0.mk (blk_below BS5.out hb); have BC6 := Aside0.mk (blk_below BC5.out hb); clear hb; clear ks5_6 ks5_7 ks5_8 ks5_9 kc5_0 kc5_1 kc5_2 kc5_3 kc5_4 kc5_5; have ks6_6 : World.cell? w6 ⟨w.heap.size, 6, none⟩ = some (.slice A6 l0_6.length c6) := (blk_cell BS6.out 6).trans rfl; have ks6_7 : World.cell? w6 ⟨w.heap.size, 7, none⟩ = some (.slice A7 l0_7.length c7) := (blk_cell BS6.out 7).trans rfl; have ks6_8 : World.cell? w6 ⟨w.heap.size, 8, none⟩ = some (.slice A8 l0_8.length c8) := (blk_cell BS6.out 8).trans rfl; have ks6_9 : World.cell? w6 ⟨w.heap.size, 9, none⟩ = some (.slice A9 l0_9.length c9) := (blk_cell BS6.out 9).trans rfl; have kc6_0 : World.cell? w6 ⟨w.heap.size + 1, 0, none⟩ = some (.int .i64 a0_0) := (blk_cell BC6.out 0).trans rfl; have kc6_1 : World.cell? w6 ⟨w.heap.size + 1, 1, none⟩ = some (.int .i64 a0_1) := (blk_cell BC6.out 1).trans rfl; have kc6_2 : World.cell? w6 ⟨w.heap.size + 1, 2, none⟩ = some (.int .i64 a0_2) := (blk_cell BC6.out 2).trans rfl; have kc6_3 : World.cell? w6 ⟨w.heap.size + 1, 3, none⟩ = some (.int .i64 a0_3) := (blk_cell BC6.out 3).trans rfl; have kc6_4 : World.cell? w6 ⟨w.heap.size + 1, 4, none⟩ = some (.int .i64 a0_4) := (blk_cell BC6.out 4).trans rfl; have kc6_5 : World.cell? w6 ⟨w.heap.size + 1, 5, none⟩ = some (.int .i64 a0_5) := (blk_cell BC6.out 5).trans rfl))
          go_ret
          exact ⟨by simp, HB6.out⟩
/-- May a script be? -/
def okS (c : S25) (f d : List Int) (a : List (List (List S80))) (p : List Int) : Bool :=
  checkB c && decide ((f.length : Int) = c.f0) && decide (wrap64 (2 * c.f0) ≤ c.f2) && f.all (small64.in (-128) 127) && decide ((a.length : Int) = c.f1) && decide ((d.length : Int) ≤ 255) && p.all (smallT.in 0 255) && a.all (txnsB c.f0)
def script_Ok.f (a0_0 a0_1 a0_2 a0_3 a0_4 a0_5 : Int) (l0_6 l0_7 : List Int) (l0_8 : List (List (List S80))) (l0_9 : List Int) : Option Bool := some (okS ⟨a0_0, a0_1, a0_2, a0_3, a0_4, a0_5⟩ l0_6 l0_7 l0_8 l0_9)
set_option maxHeartbeats 8000000 in
theorem script_Ok.calls (a0_0 a0_1 a0_2 a0_3 a0_4 a0_5 : Int) (A6 : Option Addr) (c6 : Nat) (l0_6 : List Int) (A7 : Option Addr) (c7 : Nat) (l0_7 : List Int) (A8 : Option Addr) (c8 : Nat) (l0_8 : List (List (List S80))) (A9 : Option Addr) (c9 : Nat) (l0_9 : List Int) (r : Bool) (w : World) (hr0_6 : Kd.C (Kd.int .i64) w A6 l0_6.length l0_6) (hc0_6 : l0_6.length ≤ c6) (hr0_7 : Kd.C (Kd.int .u8) w A7 l0_7.length l0_7) (hc0_7 : l0_7.length ≤ c7) (hr0_8 : Kd.C (Kd.slice 61 (Kd.slice 80 k80)) w A8 l0_8.length l0_8) (hc0_8 : l0_8.length ≤ c8) (hr0_9 : Kd.C (Kd.int .i64) w A9 l0_9.length l0_9) (hc0_9 : l0_9.length ≤ c9) (h : script_Ok.f a0_0 a0_1 a0_2 a0_3 a0_4 a0_5 l0_6 l0_7 l0_8 l0_9 = some r) :
    Calls Try.prog 17 #[.agg #[.int .i64 a0_0, .int .i64 a0_1, .int .i64 a0_2, .int .i64 a0_3, .int .i64 a0_4, .int .i64 a0_5, .slice A6 l0_6.length c6, .slice A7 l0_7.length c7, .slice A8 l0_8.length c8, .slice A9 l0_9.length c9]] w fun e w' => e = .returned (.bool r) ∧ Below w.heap.size w w' := by
  obtain rfl := Option.some.inj h
  refine okWalk a0_0 a0_1 a0_2 a0_3 a0_4 a0_5 A6 c6 l0_6 A7 c7 l0_7 A8 c8 l0_8 A9 c9 l0_9 w (checkB ⟨a0_0, a0_1, a0_2, a0_3, a0_4, a0_5⟩) (l0_6.all (small64.in (-128) 127)) (l0_9.all (smallT.in 0 255)) (l0_8.all (txnsB a0_0)) (fun W => ?_) (fun W hW => ?_) (fun W hW => ?_) (fun W hW hc => ?_) (Kd.C_max hr0_6) (Kd.C_max hr0_7) (Kd.C_max hr0_8)
  · exact (floor_Check.calls a0_0 a0_1 a0_2 a0_3 a0_4 a0_5 _ W (check_f ⟨a0_0, a0_1, a0_2, a0_3, a0_4, a0_5⟩)).mono fun e w' h => h
  · exact small64.calls (-128) 127 A6 c6 l0_6 W (Kd.C_below hr0_6 hW)
  · exact smallT.calls 0 255 A9 c9 l0_9 W (Kd.C_below hr0_9 hW)
  · exact inTx.cont (txnsB a0_0) (w.heap.size + 1) A8 c8 l0_8 W (Kd.C_below hr0_8 hW) (fun x _ A c W1 hW1 hK hl => okC.clo a0_0 a0_1 a0_2 a0_3 a0_4 a0_5 (w.heap.size + 1) x A c W1 ((hW1.cell (World.block_lt_of_cell? _ _ hc)).trans hc) hK hl)
end Go.Proofs.Ythfkgnkojhocbaa.S
end
section
namespace Go.Proofs.Ythfkgnkojhocbaa.S
open Go.RowKit Go.Proofs.YthfkgnkojhocbaaW.PrintWords Go.Proofs.YthfkgnkojhocbaaW.PrintLast Go.Proofs.YthfkgnkojhocbaaW.PrintMore
attribute [local go_sem] max2_int min2_int max_two min_two max_three min_three max_four min_four
set_option linter.unusedVariables false
set_option linter.unusedSimpArgs false
def lang_Put.l0 : Nat → List Int → List (S80) → Int → Int → Option (List Int)
  | 0, _, _, _, _ => none
  | k + 1, x3, x6, x7, x8 => if x8 < x7 then (if 0 ≤ x8 then (if x8 < (x6.length : Int) then ((some (([((rd_T80 x6 x8).f0) % 256, ((rd_T80 x6 x8).f1) % 256, ((rd_T80 x6 x8).f2) % 256] : List Int) : List Int)).bind fun y259 => (if x3.length + y259.length < 140737488355328 then (lang_Put.l0 k (x3 ++ y259) x6 x7 (wrap64 (x8 + 1))) else (none))) else (none)) else (none)) else (some x3)
def lang_Put.f (k : Nat) (l0 : List (S80)) : Option (List Int) := lang_Put.l0 k ([] : List Int) l0 (l0.length : Int) 0
theorem lang_Put.mono_l : ∀ k, (∀ y0 y1 y2 y3, LeO (lang_Put.l0 k y0 y1 y2 y3) (lang_Put.l0 (k + 1) y0 y1 y2 y3))
  | 0 => fun _ _ _ _ r h => by simp [lang_Put.l0] at h
  | k + 1 => by
    have ih0 := lang_Put.mono_l k
    · intro y0 y1 y2 y3
      unfold lang_Put.l0
      repeat' first
      | (with_reducible exact ih0 _ _ _ _)
      | (with_reducible exact LeO.refl _)
      | (with_reducible exact LeO.none _)
      | (with_reducible refine LeO.ite ?_ ?_)
      | (with_reducible refine LeO.bind ?_ (fun _ => ?_))
      | exact ih0 _ _ _ _
      | exact LeO.none _
      | refine LeO.ite ?_ ?_
      | refine LeO.bind ?_ (fun _ => ?_)
theorem lang_Put.mono : ∀ a0 k, LeO (lang_Put.f k a0) (lang_Put.f (k + 1) a0) := by
  intro a0 k
  have ih0 := lang_Put.mono_l k
  unfold lang_Put.f
  repeat' first
      | (with_reducible exact ih0 _ _ _ _)
      | (with_reducible exact LeO.refl _)
      | (with_reducible exact LeO.none _)
      | (with_reducible refine LeO.ite ?_ ?_)
      | (with_reducible refine LeO.bind ?_ (fun _ => ?_))
      | exact ih0 _ _ _ _
      | exact LeO.none _
      | refine LeO.ite ?_ ?_
      | refine LeO.bind ?_ (fun _ => ?_)
set_option maxHeartbeats 8000000 in
set_option maxRecDepth 100000 in
theorem lang_Put.calls (k : Nat) (A0 : Option Addr) (c0 : Nat) (l0 : List (S80)) (r : List Int) (w : World) (hr0 : Kd.C k80 w A0 l0.length l0) (hc0 : l0.length ≤ c0) (h : lang_Put.f k l0 = some r) :
  Calls Try.prog 33 #[.slice A0 l0.length c0] w fun e w' => ∃ v0_ : Value, e = .returned (v0_) ∧ Kd.R (Kd.int .u8) 5 w' w.heap.size (fun _ => True) v0_ r ∧ Below w.heap.size w w' := by
 have hu80 := Try.underlying80
 have HR0 := Aside0.mk hr0
 have HC0 := Aside0.mk hc0
 clear hr0 hc0
 have HB := Aside0.mk (Below.refl w.heap.size w)
 have H : (lang_Put.l0 k ([] : List Int) l0 (l0.length : Int) 0) = some r := h
 clear h
 have H' := Aside0.mk H
 clear H
 go_enter Try.func33, Try.ntmps33
 go_wp2
 go_loopg [3, 8] k (fun kq v3 v8 w' => ∃ (x3_1 : List Int) (x8_1 : Int), v8 = .int .i64 x8_1 ∧ Aside0 (lang_Put.l0 kq x3_1 l0 (l0.length : Int) x8_1 = some r) ∧ Aside0 (kq ≤ k) ∧ Aside0 (Kd.R (Kd.int .u8) 5 w' w.heap.size (fun _ => True) v3 x3_1) ∧ Aside0 (Below w.heap.size w w'))
 case atStart => exact ⟨(([] : List Int)), (0), (by first | rfl | (simp; done) | (simp [*]; done)), H', ⟨Nat.le_refl _⟩, ⟨by first | exact Kd.R_nil _ _ _ _ _ | exact Kd.N_nil _ _ _ _ _ | exact Kd.V_nil _ _ _ _ _ | exact Kd.Q_nil _ _ _ _ _ | exact Kd.S_nil _ _ _ _ _⟩, ⟨by repeat (first | (with_reducible first | exact HB.out | apply below_alloc | apply pw_below_drewN | apply below_drew1) | exact HB.out)⟩⟩
 case round =>
  clear H'
  obtain ⟨x3_1, x8_1, rfl, HA, HK1, HO_3, HB⟩ := hrel
  cases gk with
  | zero => exact absurd HA.out (by simp [lang_Put.l0])
  | succ k1 =>
   have H := HA.out
   clear HA
   simp only [lang_Put.l0] at H
   by_cases c2 : x8_1 < (l0.length : Int)
   ·rw [if_pos c2] at H
    have c2b0 : decide (x8_1 < (l0.length : Int)) = true := decide_eq_true c2
    clear c2
    by_cases c3 : 0 ≤ x8_1
    ·rw [if_pos c3] at H
     have c3b0 : decide (0 ≤ x8_1) = true := decide_eq_true c3
     clear c3
     by_cases c4 : x8_1 < (l0.length : Int)
     ·rw [if_pos c4] at H
      have c4b0 : decide (x8_1 < (l0.length : Int)) = true := decide_eq_true c4
      clear c4
      obtain ⟨y259, hy259⟩ : ∃ y_ : List Int, y_ = (([((rd_T80 l0 x8_1).f0) % 256, ((rd_T80 l0 x8_1).f1) % 256, ((rd_T80 l0 x8_1).f2) % 256] : List Int)) := ⟨_, rfl⟩
      replace H : (if x3_1.length + y259.length < 140737488355328 then (lang_Put.l0 k1 (x3_1 ++ y259) l0 (l0.length : Int) (wrap64 (x8_1 + 1))) else (none)) = some r := by first | (rw [hy259]; with_reducible exact H) | (have H2_ := (Option.bind_some _ _).symm.trans H; rw [hy259]; with_reducible exact H2_) | (have H2_ := (Option.bind_some _ _).symm.trans H; with_reducible exact H2_) | with_reducible exact H | (rw [hy259]; exact H) | exact H
      have Ny259 := Aside0.mk hy259
      clear hy259
      by_cases c5 : x3_1.length + y259.length < 140737488355328
      ·rw [if_pos c5] at H
       have LMc5 := Aside0.mk c5
       clear c5
       obtain ⟨y262, hy262⟩ : ∃ y_ : List Int, y_ = (x3_1 ++ y259) := ⟨_, rfl⟩
       replace H : (lang_Put.l0 k1 y262 l0 (l0.length : Int) (wrap64 (x8_1 + 1))) = some r := by first | (rw [hy262]; with_reducible exact H) | (have H2_ := (Option.bind_some _ _).symm.trans H; rw [hy262]; with_reducible exact H2_) | (have H2_ := (Option.bind_some _ _).symm.trans H; with_reducible exact H2_) | with_reducible exact H | (rw [hy262]; exact H) | exact H
       have Ny262 := Aside0.mk hy262
       clear hy262
       have H' := Aside0.mk H
       clear H
       have p257 : 0 ≤ (x8_1 : Int) := of_decide_eq_true (by first | (with_reducible assumption) | assumption)
       have q257 : x8_1 < (l0.length : Int) := of_decide_eq_true (by first | (with_reducible assumption) | assumption)
       obtain ⟨ad257, e257, hx257_0, hx257_1, hx257_2⟩ := at_T80 HR0.out x8_1 p257 q257
       cases e257
       replace hx257_0 := (HB.out.cell (World.block_lt_of_cell? w _ hx257_0)).trans hx257_0
       replace hx257_1 := (HB.out.cell (World.block_lt_of_cell? w _ hx257_1)).trans hx257_1
       replace hx257_2 := (HB.out.cell (World.block_lt_of_cell? w _ hx257_2)).trans hx257_2
       replace p257 := eq_true p257
       replace q257 := eq_true q257
       go_wp2_with (first | ((with_reducible refine gate_dst (N := 5) rfl ?_); refine box_event ?hg (N := 5) ?hd (cs := #[.int .i64 0, .int .i64 0, .int .i64 0]) (t := 80) ?hr ?_; (case hd => rfl); (case hg => rfl); (case hr => first | (go_simp; done) | (go_simp; rfl)); intro gb258 hg w6 hbox hb; have n0_ := Aside0.mk (Kd.R_below (by (with_reducible repeat (first | apply Kd.R_alloc | apply Kd.R_drewN | apply Kd.R_drew)); exact HO_3.out) hb); have n1_ := Aside0.mk (below_step (by repeat (first | (with_reducible first | exact HB.out | apply below_alloc | apply pw_below_drewN | apply below_drew1) | exact HB.out)) hb); have n2_ := Aside0.mk (hbox); have n3_ := Aside0.mk ((by rw [hg]; exact (below_size (by repeat (first | (with_reducible first | exact HB.out | apply below_alloc | apply pw_below_drewN | apply below_drew1) | exact HB.out))) : w.heap.size ≤ gb258)); have n4_ := Aside0.mk ((by rw [hg]; exact (below_size (by repeat (first | (with_reducible first | exact HB.out | apply below_alloc | apply pw_below_drewN | apply below_drew1) | exact HB.out))) : w.heap.size ≤ gb258)); clear HO_3; clear HB; have HO_3 := n0_; have HB := n1_; have BK258 := n2_; have GW258 := n3_; have GE258 := n4_; clear n0_ n1_ n2_ n3_ n4_; clear hb hbox hg; have hcz7_0 : w6.cell? ⟨gb258, 0, none⟩ = some (.int .i64 0) := (blk_cell BK258.out 0).trans rfl; have hcz7_1 : w6.cell? ⟨gb258, 1, none⟩ = some (.int .i64 0) := (blk_cell BK258.out 1).trans rfl; have hcz7_2 : w6.cell? ⟨gb258, 2, none⟩ = some (.int .i64 0) := (blk_cell BK258.out 2).trans rfl; have hfz7_0 := blk_frozen BK258.out 0; have hfz7_1 := blk_frozen BK258.out 1; have hfz7_2 := blk_frozen BK258.out 2) | ((with_reducible refine gate_dst (N := 22) rfl ?_); refine Kd.R_lit (Kd.int .u8) _ 5 ?hg (N := 22) ?hd (xs := ([((rd_T80 l0 x8_1).f0) % 256, ((rd_T80 l0 x8_1).f1) % 256, ((rd_T80 l0 x8_1).f2) % 256] : List Int)) (inner := [.int .u8 (((rd_T80 l0 x8_1).f0) % 256), .int .u8 (((rd_T80 l0 x8_1).f1) % 256), .int .u8 (((rd_T80 l0 x8_1).f2) % 256)]) (ok := fun _ => True) (okp := fun _ => True) ?hr ?hp (fun _ hk => hk) trivial (Below.refl _ _) (Nat.le_refl _) (by simp) ?_; (case hd => rfl); (case hg => rfl); (case hr => first | (go_simp; done) | (go_simp; rfl)); (case hp => exact (Reps.one (show Kd.M (Kd.int .u8) _ _ _ (((rd_T80 l0 x8_1).f0) % 256) [.int .u8 (((rd_T80 l0 x8_1).f0) % 256)] from rfl) (Reps.one (show Kd.M (Kd.int .u8) _ _ _ (((rd_T80 l0 x8_1).f1) % 256) [.int .u8 (((rd_T80 l0 x8_1).f1) % 256)] from rfl) (Reps.one (show Kd.M (Kd.int .u8) _ _ _ (((rd_T80 l0 x8_1).f2) % 256) [.int .u8 (((rd_T80 l0 x8_1).f2) % 256)] from rfl) (Reps.none _ _))))); intro v260 w8 ho9 hb hg_ hnew_; clear hg_ hnew_; (first | rw [← Ny259.out] at ho9 | (simp only [Int.reduceToNat] at ho9; rw [← Ny259.out] at ho9)); have n0_ := Aside0.mk (Kd.R_elder' (by (with_reducible repeat (first | apply Kd.R_alloc | apply Kd.R_drewN | apply Kd.R_drew)); exact (Kd.R_mono (Kd.R_far (p := ⟨gb258, 2, none⟩) (Kd.R_far (p := ⟨gb258, 1, none⟩) (Kd.R_far (p := ⟨gb258, 0, none⟩) (Kd.R_types HO_3.out BK258.out (by decide)) (fun _ hk => hk.2) (.int .i64 ((rd_T80 l0 x8_1).f0))) (fun _ hk => hk.2) (.int .i64 ((rd_T80 l0 x8_1).f1))) (fun _ hk => hk.2) (.int .i64 ((rd_T80 l0 x8_1).f2))) (fun _ h_ => h_.1))) (Kd.R_base ho9) hb); have n1_ := Aside0.mk (Kd.R_lower (Kd.R_new' ho9 (Kd.R_lt (by (with_reducible repeat (first | apply Kd.R_alloc | apply Kd.R_drewN | apply Kd.R_drew)); exact (Kd.R_mono (Kd.R_far (p := ⟨gb258, 2, none⟩) (Kd.R_far (p := ⟨gb258, 1, none⟩) (Kd.R_far (p := ⟨gb258, 0, none⟩) (Kd.R_types HO_3.out BK258.out (by decide)) (fun _ hk => hk.2) (.int .i64 ((rd_T80 l0 x8_1).f0))) (fun _ hk => hk.2) (.int .i64 ((rd_T80 l0 x8_1).f1))) (fun _ hk => hk.2) (.int .i64 ((rd_T80 l0 x8_1).f2))) (fun _ h_ => h_.1))))) (below_size (by repeat (first | (with_reducible first | exact HB.out | apply below_alloc | apply pw_below_drewN | apply below_drew1 | refine below_set ?_ GE258.out) | exact HB.out)))); have n2_ := Aside0.mk (blk_below (g := gb258) (o := .cells #[.int .i64 ((rd_T80 l0 x8_1).f0), .int .i64 ((rd_T80 l0 x8_1).f1), .int .i64 ((rd_T80 l0 x8_1).f2)] 80 (0, 0)) (by (with_reducible repeat (first | refine blk_drewN ?_ _ | refine blk_drew ?_ | refine blk_alloc ?_ _)); refine blk_put (cs := #[.int .i64 ((rd_T80 l0 x8_1).f0), .int .i64 ((rd_T80 l0 x8_1).f1), .int .i64 0]) ?_ 2 _ rfl; (with_reducible repeat (first | refine blk_drewN ?_ _ | refine blk_drew ?_ | refine blk_alloc ?_ _)); refine blk_put (cs := #[.int .i64 ((rd_T80 l0 x8_1).f0), .int .i64 0, .int .i64 0]) ?_ 1 _ rfl; (with_reducible repeat (first | refine blk_drewN ?_ _ | refine blk_drew ?_ | refine blk_alloc ?_ _)); refine blk_put (cs := #[.int .i64 0, .int .i64 0, .int .i64 0]) ?_ 0 _ rfl; (with_reducible repeat (first | refine blk_drewN ?_ _ | refine blk_drew ?_ | refine blk_alloc ?_ _)); exact BK258.out) hb); have n3_ := Aside0.mk (below_step (by repeat (first | (with_reducible first | exact HB.out | apply below_alloc | apply pw_below_drewN | apply below_drew1 | refine below_set ?_ GE258.out) | exact HB.out)) hb); clear HO_3; clear BK258; clear HB; have HO_3 := n0_; have HO261 := n1_; have BK258 := n2_; have HB := n3_; clear n0_ n1_ n2_ n3_; clear hb ho9; obtain ⟨Ao11, co11, eo11⟩ := Kd.R_slice HO261.out; subst eo11) | ((with_reducible refine gate_builtin (b := .append) (xs := #[.tmp 12, .tmp 22]) rfl ?_); at_builtin; refine Kd.R_append_rows (Kd.int .u8) (w0 := w) w.heap.size rfl (.tmp 12) (.tmp 22) 22 5 (.int .u8 0) 1 rfl Try.underlying22 info5 rfl (by decide) (by omega) u3 x3_1 y259 _ _ _ (fun k_ => some k_ ≠ (.slice Ao11 y259.length co11 : Value).ownBlock) (fun _ => False) rfl rfl ?aO ?aR (fun _ _ h => h) (fun _ h => h.elim) ?aF ?aB ?aS ?aL ?_; (case aR => repeat (first | exact (Kd.R_reads' HO261.out).2.2 | (with_reducible refine Kd.C_alloc ?_ _) | (with_reducible refine Kd.C_drewN ?_ _) | (with_reducible refine Kd.C_drew ?_))); (case aB => exact (by repeat (first | (with_reducible first | exact HB.out | apply below_alloc | apply pw_below_drewN | apply below_drew1 | refine below_set ?_ GE258.out) | exact HB.out))); (case aF => exact (fun k_ hk => Kd.fresh' (Kd.R_lt (by (with_reducible repeat (first | apply Kd.R_alloc | apply Kd.R_drewN | apply Kd.R_drew)); exact HO261.out)) k_ hk)); (case aO => exact (by (with_reducible repeat (first | apply Kd.R_alloc | apply Kd.R_drewN | apply Kd.R_drew)); exact Kd.R_mono HO_3.out (fun _ hk => hk.2))); (case aS => exact (below_size (by repeat (first | (with_reducible first | exact HB.out | apply below_alloc | apply pw_below_drewN | apply below_drew1 | refine below_set ?_ GE258.out) | exact HB.out)))); (case aL => have := LMc5.out; omega); intro v263 w10 ho hb hg hat; rw [← Ny262.out] at ho; have n0_ := Aside0.mk (blk_grown (g := gb258) (o := .cells #[.int .i64 ((rd_T80 l0 x8_1).f0), .int .i64 ((rd_T80 l0 x8_1).f1), .int .i64 ((rd_T80 l0 x8_1).f2)] 80 (0, 0)) (by (with_reducible repeat (first | refine blk_drewN ?_ _ | refine blk_drew ?_ | refine blk_alloc ?_ _)); exact BK258.out) hg (Kd.R_ne HO_3.out BK258.out (by decide))); have n1_ := Aside0.mk (Kd.R_after (ok := (fun _ => True)) (by (with_reducible repeat (first | apply Kd.R_alloc | apply Kd.R_drewN | apply Kd.R_drew)); exact HO261.out) hg hat); have n2_ := Aside0.mk (hb); have n3_ := Aside0.mk (ho); clear BK258; clear HO261; clear HB; clear HO_3; have BK258 := n0_; have HO261 := n1_; have HB := n2_; have HO264 := n3_; clear n0_ n1_ n2_ n3_; clear ho hb hg hat))
       go_roundg k1
       case measure => have := HK1.out; omega
       case rel => exact ⟨(y262), (wrap64 (x8_1 + 1)), (by first | rfl | (simp; done) | (simp [*]; done)), H', ⟨by have := HK1.out; omega⟩, ⟨by (with_reducible repeat (first | apply Kd.R_alloc | apply Kd.R_drewN | apply Kd.R_drew)); exact Kd.R_mono HO264.out (fun _ hk => trivial)⟩, ⟨by repeat (first | (with_reducible first | exact HB.out | apply below_alloc | apply pw_below_drewN | apply below_drew1 | refine below_set ?_ GE258.out) | exact HB.out)⟩⟩
      ·rw [if_neg c5] at H
       exact absurd H (by simp)
     ·rw [if_neg c4] at H
      exact absurd H (by simp)
    ·rw [if_neg c3] at H
     exact absurd H (by simp)
   ·rw [if_neg c2] at H
    have c2b0 : decide (x8_1 < (l0.length : Int)) = false := decide_eq_false c2
    clear c2
    obtain rfl := Option.some.inj H
    go_wp2
    go_ret
    exact ⟨_, by first | rfl | (simp [errW_none, errW_some] <;> rfl) | (simp [*, errW_none, errW_some] <;> rfl), by (with_reducible repeat (first | apply Kd.R_alloc | apply Kd.R_drewN | apply Kd.R_drew)); exact HO_3.out, by repeat (first | (with_reducible first | exact HB.out | apply below_alloc | apply pw_below_drewN | apply below_drew1) | exact HB.out)⟩
end Go.Proofs.Ythfkgnkojhocbaa.S
end
section
namespace Go.Proofs.Ythfkgnkojhocbaa.S
open Go.RowKit Go.Proofs.YthfkgnkojhocbaaW.PrintWords Go.Proofs.YthfkgnkojhocbaaW.PrintLast Go.Proofs.YthfkgnkojhocbaaW.PrintMore
attribute [local go_sem] max2_int min2_int max_two min_two max_three min_three max_four min_four
set_option linter.unusedVariables false
set_option linter.unusedSimpArgs false
mutual
def script_Put.l0 : Nat → List Int → List Int → Int → Int → Int → Int → Int → Int → Int → Int → List Int → List Int → List (List (List (S80))) → List Int → Option (List Int × Int)
  | 0, _, _, _, _, _, _, _, _, _, _, _, _, _, _ => none
  | k + 1, x5, x43, x44, x45, x266000, x266001, x266002, x266003, x266004, x266005, x266006, x266007, x266008, x266009 => if x45 < x44 then (if 0 ≤ x45 then (if x45 < (x43.length : Int) then (if x5.length < 140737488355328 then (script_Put.l0 k (x5 ++ [(rd x43 x45) % 256]) x43 x44 (wrap64 (x45 + 1)) x266000 x266001 x266002 x266003 x266004 x266005 x266006 x266007 x266008 x266009) else (none)) else (none)) else (none)) else (script_Put.l1 k x5 x266008 (x266008.length : Int) 0 x266000 x266001 x266002 x266003 x266004 x266005 x266006 x266007 x266008 x266009)
def script_Put.l1 : Nat → List Int → List (List (List (S80))) → Int → Int → Int → Int → Int → Int → Int → Int → List Int → List Int → List (List (List (S80))) → List Int → Option (List Int × Int)
  | 0, _, _, _, _, _, _, _, _, _, _, _, _, _, _ => none
  | k + 1, x5, x56, x57, x58, x266000, x266001, x266002, x266003, x266004, x266005, x266006, x266007, x266008, x266009 => if x58 < x57 then (if 0 ≤ x58 then (if x58 < (x56.length : Int) then (if x5.length < 140737488355328 then (script_Put.l2 k (x5 ++ [(((rd_L7 x56 x58).length : Int)) % 256]) x56 x57 x58 (rd_L7 x56 x58) ((rd_L7 x56 x58).length : Int) 0 x266000 x266001 x266002 x266003 x266004 x266005 x266006 x266007 x266008 x266009) else (none)) else (none)) else (none)) else (if x5.length < 140737488355328 then ((some (x5 ++ [((x266007.length : Int)) % 256] : List Int)).bind fun y289 => (if y289.length + x266007.length < 140737488355328 then (script_Put.l3 k (y289 ++ x266007) x266009 (x266009.length : Int) 0) else (none))) else (none))
def script_Put.l2 : Nat → List Int → List (List (List (S80))) → Int → Int → List (List (S80)) → Int → Int → Int → Int → Int → Int → Int → Int → List Int → List Int → List (List (List (S80))) → List Int → Option (List Int × Int)
  | 0, _, _, _, _, _, _, _, _, _, _, _, _, _, _, _, _, _ => none
  | k + 1, x5, x56, x57, x58, x68, x69, x70, x266000, x266001, x266002, x266003, x266004, x266005, x266006, x266007, x266008, x266009 => if x70 < x69 then (if 0 ≤ x70 then (if x70 < (x68.length : Int) then (if x5.length < 140737488355328 then ((some (x5 ++ [(((rd_L6 x68 x70).length : Int)) % 256] : List Int)).bind fun y280 => ((lang_Put.f k (rd_L6 x68 x70)).bind fun t283 => (if y280.length + t283.length < 140737488355328 then (script_Put.l2 k (y280 ++ t283) x56 x57 x58 x68 x69 (wrap64 (x70 + 1)) x266000 x266001 x266002 x266003 x266004 x266005 x266006 x266007 x266008 x266009) else (none)))) else (none)) else (none)) else (none)) else (script_Put.l1 k x5 x56 x57 (wrap64 (x58 + 1)) x266000 x266001 x266002 x266003 x266004 x266005 x266006 x266007 x266008 x266009)
def script_Put.l3 : Nat → List Int → List Int → Int → Int → Option (List Int × Int)
  | 0, _, _, _, _ => none
  | k + 1, x5, x96, x97, x98 => if x98 < x97 then (if 0 ≤ x98 then (if x98 < (x96.length : Int) then (if x5.length < 140737488355328 then (script_Put.l3 k (x5 ++ [(rd x96 x98) % 256]) x96 x97 (wrap64 (x98 + 1))) else (none)) else (none)) else (none)) else (some (x5, 0))
end
def script_Put.f (k : Nat) (a0_0 : Int) (a0_1 : Int) (a0_2 : Int) (a0_3 : Int) (a0_4 : Int) (a0_5 : Int) (l0_6 : List Int) (l0_7 : List Int) (l0_8 : List (List (List (S80)))) (l0_9 : List Int) : Option (List Int × Int) := (script_Ok.f a0_0 a0_1 a0_2 a0_3 a0_4 a0_5 l0_6 l0_7 l0_8 l0_9).bind fun t266 => (if t266 = true then (script_Put.l0 k (([(a0_0) % 256, (a0_1) % 256, (a0_2 / 256) % 256, (a0_2) % 256, (a0_3) % 256, (a0_4) % 256, (a0_5) % 256] : List Int)) l0_6 (l0_6.length : Int) 0 a0_0 a0_1 a0_2 a0_3 a0_4 a0_5 l0_6 l0_7 l0_8 l0_9) else (some (([] : List Int), 1)))
theorem script_Put.mono_l : ∀ k, (∀ y0 y1 y2 y3 y4 y5 y6 y7 y8 y9 y10 y11 y12 y13, LeO (script_Put.l0 k y0 y1 y2 y3 y4 y5 y6 y7 y8 y9 y10 y11 y12 y13) (script_Put.l0 (k + 1) y0 y1 y2 y3 y4 y5 y6 y7 y8 y9 y10 y11 y12 y13)) ∧ (∀ y0 y1 y2 y3 y4 y5 y6 y7 y8 y9 y10 y11 y12 y13, LeO (script_Put.l1 k y0 y1 y2 y3 y4 y5 y6 y7 y8 y9 y10 y11 y12 y13) (script_Put.l1 (k + 1) y0 y1 y2 y3 y4 y5 y6 y7 y8 y9 y10 y11 y12 y13)) ∧ (∀ y0 y1 y2 y3 y4 y5 y6 y7 y8 y9 y10 y11 y12 y13 y14 y15 y16, LeO (script_Put.l2 k y0 y1 y2 y3 y4 y5 y6 y7 y8 y9 y10 y11 y12 y13 y14 y15 y16) (script_Put.l2 (k + 1) y0 y1 y2 y3 y4 y5 y6 y7 y8 y9 y10 y11 y12 y13 y14 y15 y16)) ∧ (∀ y0 y1 y2 y3, LeO (script_Put.l3 k y0 y1 y2 y3) (script_Put.l3 (k + 1) y0 y1 y2 y3))
  | 0 => ⟨fun _ _ _ _ _ _ _ _ _ _ _ _ _ _ r h => by simp [script_Put.l0] at h, fun _ _ _ _ _ _ _ _ _ _ _ _ _ _ r h => by simp [script_Put.l1] at h, fun _ _ _ _ _ _ _ _ _ _ _ _ _ _ _ _ _ r h => by simp [script_Put.l2] at h, fun _ _ _ _ r h => by simp [script_Put.l3] at h⟩
  | k + 1 => by
    obtain ⟨ih0, ih1, ih2, ih3⟩ := script_Put.mono_l k
    refine ⟨?_, ?_, ?_, ?_⟩
    · intro y0 y1 y2 y3 y4 y5 y6 y7 y8 y9 y10 y11 y12 y13
      unfold script_Put.l0
      repeat' first
      | (with_reducible exact ih0 _ _ _ _ _ _ _ _ _ _ _ _ _ _)
      | (with_reducible exact ih1 _ _ _ _ _ _ _ _ _ _ _ _ _ _)
      | (with_reducible exact ih2 _ _ _ _ _ _ _ _ _ _ _ _ _ _ _ _ _)
      | (with_reducible exact ih3 _ _ _ _)
      | (with_reducible exact lang_Put.mono _ _)
      | (with_reducible exact LeO.refl _)
      | (with_reducible exact LeO.none _)
      | (with_reducible refine LeO.ite ?_ ?_)
      | (with_reducible refine LeO.bind ?_ (fun _ => ?_))
      | exact ih0 _ _ _ _ _ _ _ _ _ _ _ _ _ _
      | exact ih1 _ _ _ _ _ _ _ _ _ _ _ _ _ _
      | exact ih2 _ _ _ _ _ _ _ _ _ _ _ _ _ _ _ _ _
      | exact ih3 _ _ _ _
      | exact lang_Put.mono _ _
      | exact LeO.none _
      | refine LeO.ite ?_ ?_
      | refine LeO.bind ?_ (fun _ => ?_)
    · intro y0 y1 y2 y3 y4 y5 y6 y7 y8 y9 y10 y11 y12 y13
      unfold script_Put.l1
      repeat' first
      | (with_reducible exact ih0 _ _ _ _ _ _ _ _ _ _ _ _ _ _)
      | (with_reducible exact ih1 _ _ _ _ _ _ _ _ _ _ _ _ _ _)
      | (with_reducible exact ih2 _ _ _ _ _ _ _ _ _ _ _ _ _ _ _ _ _)
      | (with_reducible exact ih3 _ _ _ _)
      | (with_reducible exact lang_Put.mono _ _)
      | (with_reducible exact LeO.refl _)
      | (with_reducible exact LeO.none _)
      | (with_reducible refine LeO.ite ?_ ?_)
      | (with_reducible refine LeO.bind ?_ (fun _ => ?_))
      | exact ih0 _ _ _ _ _ _ _ _ _ _ _ _ _ _
      | exact ih1 _ _ _ _ _ _ _ _ _ _ _ _ _ _
      | exact ih2 _ _ _ _ _ _ _ _ _ _ _ _ _ _ _ _ _
      | exact ih3 _ _ _ _
      | exact lang_Put.mono _ _
      | exact LeO.none _
      | refine LeO.ite ?_ ?_
      | refine LeO.bind ?_ (fun _ => ?_)
    · intro y0 y1 y2 y3 y4 y5 y6 y7 y8 y9 y10 y11 y12 y13 y14 y15 y16
      unfold script_Put.l2
      repeat' first
      | (with_reducible exact ih0 _ _ _ _ _ _ _ _ _ _ _ _ _ _)
      | (with_reducible exact ih1 _ _ _ _ _ _ _ _ _ _ _ _ _ _)
      | (with_reducible exact ih2 _ _ _ _ _ _ _ _ _ _ _ _ _ _ _ _ _)
      | (with_reducible exact ih3 _ _ _ _)
      | (with_reducible exact lang_Put.mono _ _)
      | (with_reducible exact LeO.refl _)
      | (with_reducible exact LeO.none _)
      | (with_reducible refine LeO.ite ?_ ?_)
      | (with_reducible refine LeO.bind ?_ (fun _ => ?_))
      | exact ih0 _ _ _ _ _ _ _ _ _ _ _ _ _ _
      | exact ih1 _ _ _ _ _ _ _ _ _ _ _ _ _ _
      | exact ih2 _ _ _ _ _ _ _ _ _ _ _ _ _ _ _ _ _
      | exact ih3 _ _ _ _
      | exact lang_Put.mono _ _
      | exact LeO.none _
      | refine LeO.ite ?_ ?_
      | refine LeO.bind ?_ (fun _ => ?_)
    · intro y0 y1 y2 y3
      unfold script_Put.l3
      repeat' first
      | (with_reducible exact ih0 _ _ _ _ _ _ _ _ _ _ _ _ _ _)
      | (with_reducible exact ih1 _ _ _ _ _ _ _ _ _ _ _ _ _ _)
      | (with_reducible exact ih2 _ _ _ _ _ _ _ _ _ _ _ _ _ _ _ _ _)
      | (with_reducible exact ih3 _ _ _ _)
      | (with_reducible exact lang_Put.mono _ _)
      | (with_reducible exact LeO.refl _)
      | (with_reducible exact LeO.none _)
      | (with_reducible refine LeO.ite ?_ ?_)
      | (with_reducible refine LeO.bind ?_ (fun _ => ?_))
      | exact ih0 _ _ _ _ _ _ _ _ _ _ _ _ _ _
      | exact ih1 _ _ _ _ _ _ _ _ _ _ _ _ _ _
      | exact ih2 _ _ _ _ _ _ _ _ _ _ _ _ _ _ _ _ _
      | exact ih3 _ _ _ _
      | exact lang_Put.mono _ _
      | exact LeO.none _
      | refine LeO.ite ?_ ?_
      | refine LeO.bind ?_ (fun _ => ?_)
theorem script_Put.mono : ∀ a0 a1 a2 a3 a4 a5 a6 a7 a8 a9 k, LeO (script_Put.f k a0 a1 a2 a3 a4 a5 a6 a7 a8 a9) (script_Put.f (k + 1) a0 a1 a2 a3 a4 a5 a6 a7 a8 a9) := by
  intro a0 a1 a2 a3 a4 a5 a6 a7 a8 a9 k
  obtain ⟨ih0, ih1, ih2, ih3⟩ := script_Put.mono_l k
  unfold script_Put.f
  repeat' first
      | (with_reducible exact ih0 _ _ _ _ _ _ _ _ _ _ _ _ _ _)
      | (with_reducible exact ih1 _ _ _ _ _ _ _ _ _ _ _ _ _ _)
      | (with_reducible exact ih2 _ _ _ _ _ _ _ _ _ _ _ _ _ _ _ _ _)
      | (with_reducible exact ih3 _ _ _ _)
      | (with_reducible exact lang_Put.mono _ _)
      | (with_reducible exact LeO.refl _)
      | (with_reducible exact LeO.none _)
      | (with_reducible refine LeO.ite ?_ ?_)
      | (with_reducible refine LeO.bind ?_ (fun _ => ?_))
      | exact ih0 _ _ _ _ _ _ _ _ _ _ _ _ _ _
      | exact ih1 _ _ _ _ _ _ _ _ _ _ _ _ _ _
      | exact ih2 _ _ _ _ _ _ _ _ _ _ _ _ _ _ _ _ _
      | exact ih3 _ _ _ _
      | exact lang_Put.mono _ _
      | exact LeO.none _
      | refine LeO.ite ?_ ?_
      | refine LeO.bind ?_ (fun _ => ?_)
def script_Put.T20 : Bool × List (List Nat × List Nat) := (true, [([], []), ([], []), ([1], [1]), ([2], [2]), ([3], [3]), ([4], [4]), ([0, 5], [0, 5]), ([], []), ([7], [7]), ([6, 8, 6], [6, 8]), ([9, 9, 0, 1, 2, 3, 4, 5, 6, 7, 8, 9], [0, 9])])
def script_Put.B20 : List Nat := [0, 0, 2, 6, 14, 30, 63, 0, 128, 511, 1023]
theorem script_Put.tab20 : rtab .any (opsOf Try.f15 20) = script_Put.T20 := by kernel_rfl
theorem script_Put.bits20 : waitsOk script_Put.T20.2 script_Put.B20 = true := by kernel_rfl
set_option maxHeartbeats 8000000 in
set_option maxRecDepth 100000 in
theorem script_Put.calls (k : Nat) (a0_0 : Int) (a0_1 : Int) (a0_2 : Int) (a0_3 : Int) (a0_4 : Int) (a0_5 : Int) (A0_6 : Option Addr) (c0_6 : Nat) (l0_6 : List Int) (A0_7 : Option Addr) (c0_7 : Nat) (l0_7 : List Int) (A0_8 : Option Addr) (c0_8 : Nat) (l0_8 : List (List (List (S80)))) (A0_9 : Option Addr) (c0_9 : Nat) (l0_9 : List Int) (r1 : List Int) (r2 : Int) (w : World) (hr0_6 : Kd.C (Kd.int .i64) w A0_6 l0_6.length l0_6) (hc0_6 : l0_6.length ≤ c0_6) (hr0_7 : Kd.C (Kd.int .u8) w A0_7 l0_7.length l0_7) (hc0_7 : l0_7.length ≤ c0_7) (hr0_8 : Kd.C (Kd.slice 61 (Kd.slice 80 k80)) w A0_8 l0_8.length l0_8) (hc0_8 : l0_8.length ≤ c0_8) (hr0_9 : Kd.C (Kd.int .i64) w A0_9 l0_9.length l0_9) (hc0_9 : l0_9.length ≤ c0_9) (h : script_Put.f k a0_0 a0_1 a0_2 a0_3 a0_4 a0_5 l0_6 l0_7 l0_8 l0_9 = some (r1, r2)) :
  Calls Try.prog 15 #[.agg #[.int .i64 a0_0, .int .i64 a0_1, .int .i64 a0_2, .int .i64 a0_3, .int .i64 a0_4, .int .i64 a0_5, .slice A0_6 l0_6.length c0_6, .slice A0_7 l0_7.length c0_7, .slice A0_8 l0_8.length c0_8, .slice A0_9 l0_9.length c0_9]] w fun e w' => ∃ v0_ : Value, e = .returned (.tuple #[v0_, .int .i64 r2]) ∧ Kd.R (Kd.int .u8) 5 w' w.heap.size (fun _ => True) v0_ r1 ∧ Below w.heap.size w w' := by
 have hu30 := Try.underlying30
 have hu25 := Try.underlying25
 have HR0_6 := Aside0.mk hr0_6
 have HC0_6 := Aside0.mk hc0_6
 clear hr0_6 hc0_6
 have HR0_7 := Aside0.mk hr0_7
 have HC0_7 := Aside0.mk hc0_7
 clear hr0_7 hc0_7
 have HR0_8 := Aside0.mk hr0_8
 have HC0_8 := Aside0.mk hc0_8
 clear hr0_8 hc0_8
 have HR0_9 := Aside0.mk hr0_9
 have HC0_9 := Aside0.mk hc0_9
 clear hr0_9 hc0_9
 have HB := Aside0.mk (Below.refl w.heap.size w)
 have H : ((script_Ok.f a0_0 a0_1 a0_2 a0_3 a0_4 a0_5 l0_6 l0_7 l0_8 l0_9).bind fun t266 => (if t266 = true then (script_Put.l0 k (([(a0_0) % 256, (a0_1) % 256, (a0_2 / 256) % 256, (a0_2) % 256, (a0_3) % 256, (a0_4) % 256, (a0_5) % 256] : List Int)) l0_6 (l0_6.length : Int) 0 a0_0 a0_1 a0_2 a0_3 a0_4 a0_5 l0_6 l0_7 l0_8 l0_9) else (some (([] : List Int), 1)))) = some (r1, r2) := h
 clear h
 replace H := Option.bind_eq_some_iff.mp H
 obtain ⟨t266, A20, H⟩ := H
 replace H : (if t266 = true then (script_Put.l0 k (([(a0_0) % 256, (a0_1) % 256, (a0_2 / 256) % 256, (a0_2) % 256, (a0_3) % 256, (a0_4) % 256, (a0_5) % 256] : List Int)) l0_6 (l0_6.length : Int) 0 a0_0 a0_1 a0_2 a0_3 a0_4 a0_5 l0_6 l0_7 l0_8 l0_9) else (some (([] : List Int), 1))) = some (r1, r2) := H
 have A2 := Aside0.mk A20
 clear A20
 by_cases c3 : t266 = true
 ·subst c3
  have H1 : (script_Put.l0 k (([(a0_0) % 256, (a0_1) % 256, (a0_2 / 256) % 256, (a0_2) % 256, (a0_3) % 256, (a0_4) % 256, (a0_5) % 256] : List Int)) l0_6 (l0_6.length : Int) 0 a0_0 a0_1 a0_2 a0_3 a0_4 a0_5 l0_6 l0_7 l0_8 l0_9) = some (r1, r2) := by rw [if_pos rfl] at H; exact H
  clear H
  have H := H1
  clear H1
  obtain ⟨y268, hy268⟩ : ∃ y_ : List Int, y_ = (([(a0_0) % 256, (a0_1) % 256, (a0_2 / 256) % 256, (a0_2) % 256, (a0_3) % 256, (a0_4) % 256, (a0_5) % 256] : List Int)) := ⟨_, rfl⟩
  replace H : (script_Put.l0 k y268 l0_6 (l0_6.length : Int) 0 a0_0 a0_1 a0_2 a0_3 a0_4 a0_5 l0_6 l0_7 l0_8 l0_9) = some (r1, r2) := by first | (rw [hy268]; with_reducible exact H) | (have H2_ := (Option.bind_some _ _).symm.trans H; rw [hy268]; with_reducible exact H2_) | (have H2_ := (Option.bind_some _ _).symm.trans H; with_reducible exact H2_) | with_reducible exact H | (rw [hy268]; exact H) | exact H
  have Ny268 := Aside0.mk hy268
  clear hy268
  have H' := Aside0.mk H
  clear H
  go_enter Try.func15, Try.ntmps15
  go_wp2_with (first | ((with_reducible refine gate_dst (N := 1) rfl ?_); refine box_event ?hg (N := 1) ?hd (cs := #[.int .i64 a0_0, .int .i64 a0_1, .int .i64 a0_2, .int .i64 a0_3, .int .i64 a0_4, .int .i64 a0_5, .slice A0_6 l0_6.length c0_6, .slice A0_7 l0_7.length c0_7, .slice A0_8 l0_8.length c0_8, .slice A0_9 l0_9.length c0_9]) (t := 30) ?hr ?_; (case hd => rfl); (case hg => rfl); (case hr => first | (go_simp; done) | (go_simp; rfl)); intro gb265 hg w4 hbox hb; have n0_ := Aside0.mk (below_step (by repeat (first | (with_reducible first | exact HB.out | apply below_alloc | apply pw_below_drewN | apply below_drew1) | exact HB.out)) hb); have n1_ := Aside0.mk (hbox); have n2_ := Aside0.mk ((by rw [hg]; exact (below_size (by repeat (first | (with_reducible first | exact HB.out | apply below_alloc | apply pw_below_drewN | apply below_drew1) | exact HB.out))) : w.heap.size ≤ gb265)); have n3_ := Aside0.mk ((by rw [hg]; exact (below_size (by repeat (first | (with_reducible first | exact HB.out | apply below_alloc | apply pw_below_drewN | apply below_drew1) | exact HB.out))) : w.heap.size ≤ gb265)); clear HB; have HB := n0_; have BK265 := n1_; have GW265 := n2_; have GE265 := n3_; clear n0_ n1_ n2_ n3_; clear hb hbox hg; have hcz5_0 : w4.cell? ⟨gb265, 0, none⟩ = some (.int .i64 a0_0) := (blk_cell BK265.out 0).trans rfl; have hcz5_1 : w4.cell? ⟨gb265, 1, none⟩ = some (.int .i64 a0_1) := (blk_cell BK265.out 1).trans rfl; have hcz5_2 : w4.cell? ⟨gb265, 2, none⟩ = some (.int .i64 a0_2) := (blk_cell BK265.out 2).trans rfl; have hcz5_3 : w4.cell? ⟨gb265, 3, none⟩ = some (.int .i64 a0_3) := (blk_cell BK265.out 3).trans rfl; have hcz5_4 : w4.cell? ⟨gb265, 4, none⟩ = some (.int .i64 a0_4) := (blk_cell BK265.out 4).trans rfl; have hcz5_5 : w4.cell? ⟨gb265, 5, none⟩ = some (.int .i64 a0_5) := (blk_cell BK265.out 5).trans rfl; have hcz5_6 : w4.cell? ⟨gb265, 6, none⟩ = some (.slice A0_6 l0_6.length c0_6) := (blk_cell BK265.out 6).trans rfl; have hcz5_7 : w4.cell? ⟨gb265, 7, none⟩ = some (.slice A0_7 l0_7.length c0_7) := (blk_cell BK265.out 7).trans rfl; have hcz5_8 : w4.cell? ⟨gb265, 8, none⟩ = some (.slice A0_8 l0_8.length c0_8) := (blk_cell BK265.out 8).trans rfl; have hcz5_9 : w4.cell? ⟨gb265, 9, none⟩ = some (.slice A0_9 l0_9.length c0_9) := (blk_cell BK265.out 9).trans rfl; have hfz5_0 := blk_frozen BK265.out 0; have hfz5_1 := blk_frozen BK265.out 1; have hfz5_2 := blk_frozen BK265.out 2; have hfz5_3 := blk_frozen BK265.out 3; have hfz5_4 := blk_frozen BK265.out 4; have hfz5_5 := blk_frozen BK265.out 5; have hfz5_6 := blk_frozen BK265.out 6; have hfz5_7 := blk_frozen BK265.out 7; have hfz5_8 := blk_frozen BK265.out 8; have hfz5_9 := blk_frozen BK265.out 9) | ((with_reducible refine gate_callee (f := 17) rfl ?_); refine goesL_ (some 15) rfl rfl Try.func17 (by kernel_rfl) rfl #[.agg #[.int .i64 a0_0, .int .i64 a0_1, .int .i64 a0_2, .int .i64 a0_3, .int .i64 a0_4, .int .i64 a0_5, .slice A0_6 l0_6.length c0_6, .slice A0_7 l0_7.length c0_7, .slice A0_8 l0_8.length c0_8, .slice A0_9 l0_9.length c0_9]] rfl (by (try simp only [List.map_toArray, List.map_cons, List.map_nil]); first | done | rfl | (simp only [List.length_drop, List.length_take]; rfl)) ?_; (with_reducible refine (script_Ok.calls a0_0 a0_1 a0_2 a0_3 a0_4 a0_5 _ _ l0_6 _ _ l0_7 _ _ l0_8 _ _ l0_9 true _ ?side1 ?side2 ?side3 ?side4 ?side5 ?side6 ?side7 ?side8 A2.out).mono ?_); (case side1 => repeat (first | exact (Kd.C_below HR0_6.out HB.out) | (with_reducible refine Kd.C_alloc ?_ _) | (with_reducible refine Kd.C_drewN ?_ _) | (with_reducible refine Kd.C_drew ?_))); (case side2 => exact HC0_6.out); (case side3 => repeat (first | exact (Kd.C_below HR0_7.out HB.out) | (with_reducible refine Kd.C_alloc ?_ _) | (with_reducible refine Kd.C_drewN ?_ _) | (with_reducible refine Kd.C_drew ?_))); (case side4 => exact HC0_7.out); (case side5 => repeat (first | exact (Kd.C_below HR0_8.out HB.out) | (with_reducible refine Kd.C_alloc ?_ _) | (with_reducible refine Kd.C_drewN ?_ _) | (with_reducible refine Kd.C_drew ?_))); (case side6 => exact HC0_8.out); (case side7 => repeat (first | exact (Kd.C_below HR0_9.out HB.out) | (with_reducible refine Kd.C_alloc ?_ _) | (with_reducible refine Kd.C_drewN ?_ _) | (with_reducible refine Kd.C_drew ?_))); (case side8 => exact HC0_9.out); rintro e w6 ⟨rfl, hb⟩; refine ⟨_, rfl, ?_⟩; have n0_ := Aside0.mk (blk_below (g := gb265) (o := .cells #[.int .i64 a0_0, .int .i64 a0_1, .int .i64 a0_2, .int .i64 a0_3, .int .i64 a0_4, .int .i64 a0_5, .slice A0_6 l0_6.length c0_6, .slice A0_7 l0_7.length c0_7, .slice A0_8 l0_8.length c0_8, .slice A0_9 l0_9.length c0_9] 30 (0, 0)) (by (with_reducible repeat (first | refine blk_drewN ?_ _ | refine blk_drew ?_ | refine blk_alloc ?_ _)); exact BK265.out) hb); have n1_ := Aside0.mk (below_step (by repeat (first | (with_reducible first | exact HB.out | apply below_alloc | apply pw_below_drewN | apply below_drew1 | refine below_set ?_ GE265.out) | exact HB.out)) hb); clear BK265; clear HB; have BK265 := n0_; have HB := n1_; clear n0_ n1_; (try clear hb); (try clear hb2); (try clear hk); (try clear hi); have hcz7_0 : w6.cell? ⟨gb265, 0, none⟩ = some (.int .i64 a0_0) := (blk_cell BK265.out 0).trans rfl; have hcz7_1 : w6.cell? ⟨gb265, 1, none⟩ = some (.int .i64 a0_1) := (blk_cell BK265.out 1).trans rfl; have hcz7_2 : w6.cell? ⟨gb265, 2, none⟩ = some (.int .i64 a0_2) := (blk_cell BK265.out 2).trans rfl; have hcz7_3 : w6.cell? ⟨gb265, 3, none⟩ = some (.int .i64 a0_3) := (blk_cell BK265.out 3).trans rfl; have hcz7_4 : w6.cell? ⟨gb265, 4, none⟩ = some (.int .i64 a0_4) := (blk_cell BK265.out 4).trans rfl; have hcz7_5 : w6.cell? ⟨gb265, 5, none⟩ = some (.int .i64 a0_5) := (blk_cell BK265.out 5).trans rfl; have hcz7_6 : w6.cell? ⟨gb265, 6, none⟩ = some (.slice A0_6 l0_6.length c0_6) := (blk_cell BK265.out 6).trans rfl; have hcz7_7 : w6.cell? ⟨gb265, 7, none⟩ = some (.slice A0_7 l0_7.length c0_7) := (blk_cell BK265.out 7).trans rfl; have hcz7_8 : w6.cell? ⟨gb265, 8, none⟩ = some (.slice A0_8 l0_8.length c0_8) := (blk_cell BK265.out 8).trans rfl; have hcz7_9 : w6.cell? ⟨gb265, 9, none⟩ = some (.slice A0_9 l0_9.length c0_9) := (blk_cell BK265.out 9).trans rfl; have hfz7_0 := blk_frozen BK265.out 0; have hfz7_1 := blk_frozen BK265.out 1; have hfz7_2 := blk_frozen BK265.out 2; have hfz7_3 := blk_frozen BK265.out 3; have hfz7_4 := blk_frozen BK265.out 4; have hfz7_5 := blk_frozen BK265.out 5; have hfz7_6 := blk_frozen BK265.out 6; have hfz7_7 := blk_frozen BK265.out 7; have hfz7_8 := blk_frozen BK265.out 8; have hfz7_9 := blk_frozen BK265.out 9) | ((with_reducible refine gate_dst (N := 4) rfl ?_); refine box_event ?hg (N := 4) ?hd (cs := #[.int .i64 0, .int .i64 0, .int .i64 0, .int .i64 0, .int .i64 0, .int .i64 0]) (t := 25) ?hr ?_; (case hd => rfl); (case hg => rfl); (case hr => first | (go_simp; done) | (go_simp; rfl)); intro gb267 hg w8 hbox hb; have n0_ := Aside0.mk (blk_below (g := gb265) (o := .cells #[.int .i64 a0_0, .int .i64 a0_1, .int .i64 a0_2, .int .i64 a0_3, .int .i64 a0_4, .int .i64 a0_5, .slice A0_6 l0_6.length c0_6, .slice A0_7 l0_7.length c0_7, .slice A0_8 l0_8.length c0_8, .slice A0_9 l0_9.length c0_9] 30 (0, 0)) (by (with_reducible repeat (first | refine blk_drewN ?_ _ | refine blk_drew ?_ | refine blk_alloc ?_ _)); exact BK265.out) hb); have n1_ := Aside0.mk (below_step (by repeat (first | (with_reducible first | exact HB.out | apply below_alloc | apply pw_below_drewN | apply below_drew1 | refine below_set ?_ GE265.out) | exact HB.out)) hb); have n2_ := Aside0.mk (hbox); have n3_ := Aside0.mk ((by rw [hg]; exact (below_size (by repeat (first | (with_reducible first | exact HB.out | apply below_alloc | apply pw_below_drewN | apply below_drew1 | refine below_set ?_ GE265.out) | exact HB.out))) : w.heap.size ≤ gb267)); have n4_ := Aside0.mk ((by rw [hg]; exact (below_size (by repeat (first | (with_reducible first | exact HB.out | apply below_alloc | apply pw_below_drewN | apply below_drew1 | refine below_set ?_ GE265.out) | exact HB.out))) : w.heap.size ≤ gb267)); have n5_ := Aside0.mk ((by rw [hg]; exact Nat.ne_of_lt (blk_lt (g := gb265) (o := .cells #[.int .i64 a0_0, .int .i64 a0_1, .int .i64 a0_2, .int .i64 a0_3, .int .i64 a0_4, .int .i64 a0_5, .slice A0_6 l0_6.length c0_6, .slice A0_7 l0_7.length c0_7, .slice A0_8 l0_8.length c0_8, .slice A0_9 l0_9.length c0_9] 30 (0, 0)) (by (with_reducible repeat (first | refine blk_drewN ?_ _ | refine blk_drew ?_ | refine blk_alloc ?_ _)); exact BK265.out)) : gb265 ≠ gb267)); have n6_ := Aside0.mk ((by rw [hg]; exact Nat.ne_of_gt (blk_lt (g := gb265) (o := .cells #[.int .i64 a0_0, .int .i64 a0_1, .int .i64 a0_2, .int .i64 a0_3, .int .i64 a0_4, .int .i64 a0_5, .slice A0_6 l0_6.length c0_6, .slice A0_7 l0_7.length c0_7, .slice A0_8 l0_8.length c0_8, .slice A0_9 l0_9.length c0_9] 30 (0, 0)) (by (with_reducible repeat (first | refine blk_drewN ?_ _ | refine blk_drew ?_ | refine blk_alloc ?_ _)); exact BK265.out)) : gb267 ≠ gb265)); clear BK265; clear HB; have BK265 := n0_; have HB := n1_; have BK267 := n2_; have GW267 := n3_; have GE267 := n4_; have NB265_267 := n5_; have NB267_265 := n6_; clear n0_ n1_ n2_ n3_ n4_ n5_ n6_; clear hb hbox hg; have hnb9 := NB267_265.out; have hnc9 := NB265_267.out; have hcz10_0 : w8.cell? ⟨gb267, 0, none⟩ = some (.int .i64 0) := (blk_cell BK267.out 0).trans rfl; have hcz10_1 : w8.cell? ⟨gb267, 1, none⟩ = some (.int .i64 0) := (blk_cell BK267.out 1).trans rfl; have hcz10_2 : w8.cell? ⟨gb267, 2, none⟩ = some (.int .i64 0) := (blk_cell BK267.out 2).trans rfl; have hcz10_3 : w8.cell? ⟨gb267, 3, none⟩ = some (.int .i64 0) := (blk_cell BK267.out 3).trans rfl; have hcz10_4 : w8.cell? ⟨gb267, 4, none⟩ = some (.int .i64 0) := (blk_cell BK267.out 4).trans rfl; have hcz10_5 : w8.cell? ⟨gb267, 5, none⟩ = some (.int .i64 0) := (blk_cell BK267.out 5).trans rfl; have hfz10_0 := blk_frozen BK267.out 0; have hfz10_1 := blk_frozen BK267.out 1; have hfz10_2 := blk_frozen BK267.out 2; have hfz10_3 := blk_frozen BK267.out 3; have hfz10_4 := blk_frozen BK267.out 4; have hfz10_5 := blk_frozen BK267.out 5) | ((with_reducible refine gate_dst (N := 41) rfl ?_); refine Kd.R_lit (Kd.int .u8) _ 5 ?hg (N := 41) ?hd (xs := ([(a0_0) % 256, (a0_1) % 256, (a0_2 / 256) % 256, (a0_2) % 256, (a0_3) % 256, (a0_4) % 256, (a0_5) % 256] : List Int)) (inner := [.int .u8 ((a0_0) % 256), .int .u8 ((a0_1) % 256), .int .u8 ((a0_2 / 256) % 256), .int .u8 ((a0_2) % 256), .int .u8 ((a0_3) % 256), .int .u8 ((a0_4) % 256), .int .u8 ((a0_5) % 256)]) (ok := fun _ => True) (okp := fun _ => True) ?hr ?hp (fun _ hk => hk) trivial (Below.refl _ _) (Nat.le_refl _) (by simp) ?_; (case hd => rfl); (case hg => rfl); (case hr => first | (go_simp; done) | (go_simp; rfl)); (case hp => exact (Reps.one (show Kd.M (Kd.int .u8) _ _ _ ((a0_0) % 256) [.int .u8 ((a0_0) % 256)] from rfl) (Reps.one (show Kd.M (Kd.int .u8) _ _ _ ((a0_1) % 256) [.int .u8 ((a0_1) % 256)] from rfl) (Reps.one (show Kd.M (Kd.int .u8) _ _ _ ((a0_2 / 256) % 256) [.int .u8 ((a0_2 / 256) % 256)] from rfl) (Reps.one (show Kd.M (Kd.int .u8) _ _ _ ((a0_2) % 256) [.int .u8 ((a0_2) % 256)] from rfl) (Reps.one (show Kd.M (Kd.int .u8) _ _ _ ((a0_3) % 256) [.int .u8 ((a0_3) % 256)] from rfl) (Reps.one (show Kd.M (Kd.int .u8) _ _ _ ((a0_4) % 256) [.int .u8 ((a0_4) % 256)] from rfl) (Reps.one (show Kd.M (Kd.int .u8) _ _ _ ((a0_5) % 256) [.int .u8 ((a0_5) % 256)] from rfl) (Reps.none _ _))))))))); intro v269 w11 ho12 hb hg_ hnew_; clear hg_ hnew_; (first | rw [← Ny268.out] at ho12 | (simp only [Int.reduceToNat] at ho12; rw [← Ny268.out] at ho12)); have n0_ := Aside0.mk (Kd.R_lower ho12 (below_size (by repeat (first | (with_reducible first | exact HB.out | apply below_alloc | apply pw_below_drewN | apply below_drew1 | refine below_set ?_ GE265.out | refine below_set ?_ GE267.out) | exact HB.out)))); have n1_ := Aside0.mk (blk_below (g := gb265) (o := .cells #[.int .i64 a0_0, .int .i64 a0_1, .int .i64 a0_2, .int .i64 a0_3, .int .i64 a0_4, .int .i64 a0_5, .slice A0_6 l0_6.length c0_6, .slice A0_7 l0_7.length c0_7, .slice A0_8 l0_8.length c0_8, .slice A0_9 l0_9.length c0_9] 30 (0, 0)) (by (with_reducible repeat (first | refine blk_drewN ?_ _ | refine blk_drew ?_ | refine blk_alloc ?_ _)); refine blk_far ?_ NB265_267.out _; (with_reducible repeat (first | refine blk_drewN ?_ _ | refine blk_drew ?_ | refine blk_alloc ?_ _)); refine blk_far ?_ NB265_267.out _; (with_reducible repeat (first | refine blk_drewN ?_ _ | refine blk_drew ?_ | refine blk_alloc ?_ _)); refine blk_far ?_ NB265_267.out _; (with_reducible repeat (first | refine blk_drewN ?_ _ | refine blk_drew ?_ | refine blk_alloc ?_ _)); refine blk_far ?_ NB265_267.out _; (with_reducible repeat (first | refine blk_drewN ?_ _ | refine blk_drew ?_ | refine blk_alloc ?_ _)); refine blk_far ?_ NB265_267.out _; (with_reducible repeat (first | refine blk_drewN ?_ _ | refine blk_drew ?_ | refine blk_alloc ?_ _)); refine blk_far ?_ NB265_267.out _; (with_reducible repeat (first | refine blk_drewN ?_ _ | refine blk_drew ?_ | refine blk_alloc ?_ _)); exact BK265.out) hb); have n2_ := Aside0.mk (blk_below (g := gb267) (o := .cells #[.int .i64 a0_0, .int .i64 a0_1, .int .i64 a0_2, .int .i64 a0_3, .int .i64 a0_4, .int .i64 a0_5] 25 (0, 0)) (by (with_reducible repeat (first | refine blk_drewN ?_ _ | refine blk_drew ?_ | refine blk_alloc ?_ _)); refine blk_put (cs := #[.int .i64 a0_0, .int .i64 a0_1, .int .i64 a0_2, .int .i64 a0_3, .int .i64 a0_4, .int .i64 0]) ?_ 5 _ rfl; (with_reducible repeat (first | refine blk_drewN ?_ _ | refine blk_drew ?_ | refine blk_alloc ?_ _)); refine blk_put (cs := #[.int .i64 a0_0, .int .i64 a0_1, .int .i64 a0_2, .int .i64 a0_3, .int .i64 0, .int .i64 0]) ?_ 4 _ rfl; (with_reducible repeat (first | refine blk_drewN ?_ _ | refine blk_drew ?_ | refine blk_alloc ?_ _)); refine blk_put (cs := #[.int .i64 a0_0, .int .i64 a0_1, .int .i64 a0_2, .int .i64 0, .int .i64 0, .int .i64 0]) ?_ 3 _ rfl; (with_reducible repeat (first | refine blk_drewN ?_ _ | refine blk_drew ?_ | refine blk_alloc ?_ _)); refine blk_put (cs := #[.int .i64 a0_0, .int .i64 a0_1, .int .i64 0, .int .i64 0, .int .i64 0, .int .i64 0]) ?_ 2 _ rfl; (with_reducible repeat (first | refine blk_drewN ?_ _ | refine blk_drew ?_ | refine blk_alloc ?_ _)); refine blk_put (cs := #[.int .i64 a0_0, .int .i64 0, .int .i64 0, .int .i64 0, .int .i64 0, .int .i64 0]) ?_ 1 _ rfl; (with_reducible repeat (first | refine blk_drewN ?_ _ | refine blk_drew ?_ | refine blk_alloc ?_ _)); refine blk_put (cs := #[.int .i64 0, .int .i64 0, .int .i64 0, .int .i64 0, .int .i64 0, .int .i64 0]) ?_ 0 _ rfl; (with_reducible repeat (first | refine blk_drewN ?_ _ | refine blk_drew ?_ | refine blk_alloc ?_ _)); exact BK267.out) hb); have n3_ := Aside0.mk (below_step (by repeat (first | (with_reducible first | exact HB.out | apply below_alloc | apply pw_below_drewN | apply below_drew1 | refine below_set ?_ GE265.out | refine below_set ?_ GE267.out) | exact HB.out)) hb); clear BK265; clear BK267; clear HB; have HO270 := n0_; have BK265 := n1_; have BK267 := n2_; have HB := n3_; clear n0_ n1_ n2_ n3_; clear hb ho12; have hcz13_0 : w11.cell? ⟨gb265, 0, none⟩ = some (.int .i64 a0_0) := (blk_cell BK265.out 0).trans rfl; have hcz13_1 : w11.cell? ⟨gb265, 1, none⟩ = some (.int .i64 a0_1) := (blk_cell BK265.out 1).trans rfl; have hcz13_2 : w11.cell? ⟨gb265, 2, none⟩ = some (.int .i64 a0_2) := (blk_cell BK265.out 2).trans rfl; have hcz13_3 : w11.cell? ⟨gb265, 3, none⟩ = some (.int .i64 a0_3) := (blk_cell BK265.out 3).trans rfl; have hcz13_4 : w11.cell? ⟨gb265, 4, none⟩ = some (.int .i64 a0_4) := (blk_cell BK265.out 4).trans rfl; have hcz13_5 : w11.cell? ⟨gb265, 5, none⟩ = some (.int .i64 a0_5) := (blk_cell BK265.out 5).trans rfl; have hcz13_6 : w11.cell? ⟨gb265, 6, none⟩ = some (.slice A0_6 l0_6.length c0_6) := (blk_cell BK265.out 6).trans rfl; have hcz13_7 : w11.cell? ⟨gb265, 7, none⟩ = some (.slice A0_7 l0_7.length c0_7) := (blk_cell BK265.out 7).trans rfl; have hcz13_8 : w11.cell? ⟨gb265, 8, none⟩ = some (.slice A0_8 l0_8.length c0_8) := (blk_cell BK265.out 8).trans rfl; have hcz13_9 : w11.cell? ⟨gb265, 9, none⟩ = some (.slice A0_9 l0_9.length c0_9) := (blk_cell BK265.out 9).trans rfl; have hfz13_0 := blk_frozen BK265.out 0; have hfz13_1 := blk_frozen BK265.out 1; have hfz13_2 := blk_frozen BK265.out 2; have hfz13_3 := blk_frozen BK265.out 3; have hfz13_4 := blk_frozen BK265.out 4; have hfz13_5 := blk_frozen BK265.out 5; have hfz13_6 := blk_frozen BK265.out 6; have hfz13_7 := blk_frozen BK265.out 7; have hfz13_8 := blk_frozen BK265.out 8; have hfz13_9 := blk_frozen BK265.out 9))
  go_loopg [5, 45] k (fun kq v5 v45 w' => ∃ (x5_1 : List Int) (x45_1 : Int), v45 = .int .i64 x45_1 ∧ Aside0 (script_Put.l0 kq x5_1 l0_6 (l0_6.length : Int) x45_1 a0_0 a0_1 a0_2 a0_3 a0_4 a0_5 l0_6 l0_7 l0_8 l0_9 = some (r1, r2)) ∧ Aside0 (kq ≤ k) ∧ Aside0 (Kd.R (Kd.int .u8) 5 w' w.heap.size (fun _ => True) v5 x5_1) ∧ Aside0 (w'.heap[gb265]? = some (.cells #[.int .i64 a0_0, .int .i64 a0_1, .int .i64 a0_2, .int .i64 a0_3, .int .i64 a0_4, .int .i64 a0_5, (.slice A0_6 l0_6.length c0_6), (.slice A0_7 l0_7.length c0_7), (.slice A0_8 l0_8.length c0_8), (.slice A0_9 l0_9.length c0_9)] 30 (0, 0))) ∧ Aside0 (w'.heap[gb267]? = some (.cells #[.int .i64 a0_0, .int .i64 a0_1, .int .i64 a0_2, .int .i64 a0_3, .int .i64 a0_4, .int .i64 a0_5] 25 (0, 0))) ∧ Aside0 (Below w.heap.size w w'))
  case atStart => exact ⟨(y268), (0), (by first | rfl | (simp; done) | (simp [*]; done)), H', ⟨Nat.le_refl _⟩, ⟨by (with_reducible repeat (first | apply Kd.R_alloc | apply Kd.R_drewN | apply Kd.R_drew)); exact HO270.out⟩, ⟨by (with_reducible repeat (first | refine blk_drewN ?_ _ | refine blk_drew ?_ | refine blk_alloc ?_ _)); exact BK265.out⟩, ⟨by (with_reducible repeat (first | refine blk_drewN ?_ _ | refine blk_drew ?_ | refine blk_alloc ?_ _)); exact BK267.out⟩, ⟨by repeat (first | (with_reducible first | exact HB.out | apply below_alloc | apply pw_below_drewN | apply below_drew1 | refine below_set ?_ GE265.out | refine below_set ?_ GE267.out) | exact HB.out)⟩⟩
  case round =>
   clear H'
   try clear c1
   try clear p2
   try clear c3
   try clear c9
   try clear hcz10_0
   try clear hcz10_1
   try clear hcz10_2
   try clear hcz10_3
   try clear hcz10_4
   try clear hcz10_5
   try clear hcz13_0
   try clear hcz13_1
   try clear hcz13_2
   try clear hcz13_3
   try clear hcz13_4
   try clear hcz13_5
   try clear hcz13_6
   try clear hcz13_7
   try clear hcz13_8
   try clear hcz13_9
   try clear hcz5_0
   try clear hcz5_1
   try clear hcz5_2
   try clear hcz5_3
   try clear hcz5_4
   try clear hcz5_5
   try clear hcz5_6
   try clear hcz5_7
   try clear hcz5_8
   try clear hcz5_9
   try clear hcz7_0
   try clear hcz7_1
   try clear hcz7_2
   try clear hcz7_3
   try clear hcz7_4
   try clear hcz7_5
   try clear hcz7_6
   try clear hcz7_7
   try clear hcz7_8
   try clear hcz7_9
   try clear hfz10_0
   try clear hfz10_1
   try clear hfz10_2
   try clear hfz10_3
   try clear hfz10_4
   try clear hfz10_5
   try clear hfz13_0
   try clear hfz13_1
   try clear hfz13_2
   try clear hfz13_3
   try clear hfz13_4
   try clear hfz13_5
   try clear hfz13_6
   try clear hfz13_7
   try clear hfz13_8
   try clear hfz13_9
   try clear hfz5_0
   try clear hfz5_1
   try clear hfz5_2
   try clear hfz5_3
   try clear hfz5_4
   try clear hfz5_5
   try clear hfz5_6
   try clear hfz5_7
   try clear hfz5_8
   try clear hfz5_9
   try clear hfz7_0
   try clear hfz7_1
   try clear hfz7_2
   try clear hfz7_3
   try clear hfz7_4
   try clear hfz7_5
   try clear hfz7_6
   try clear hfz7_7
   try clear hfz7_8
   try clear hfz7_9
   obtain ⟨x5_1, x45_1, rfl, HA, HK1, HO_5, BK265, BK267, HB⟩ := hrel
   cases gk with
   | zero => exact absurd HA.out (by simp [script_Put.l0])
   | succ k1 =>
    have H := HA.out
    clear HA
    simp only [script_Put.l0] at H
    by_cases c14 : x45_1 < (l0_6.length : Int)
    ·rw [if_pos c14] at H
     have c14b0 : decide (x45_1 < (l0_6.length : Int)) = true := decide_eq_true c14
     clear c14
     by_cases c15 : 0 ≤ x45_1
     ·rw [if_pos c15] at H
      have c15b0 : decide (0 ≤ x45_1) = true := decide_eq_true c15
      clear c15
      by_cases c16 : x45_1 < (l0_6.length : Int)
      ·rw [if_pos c16] at H
       have c16b0 : decide (x45_1 < (l0_6.length : Int)) = true := decide_eq_true c16
       clear c16
       by_cases c17 : x5_1.length < 140737488355328
       ·rw [if_pos c17] at H
        have LMc17 := Aside0.mk c17
        clear c17
        obtain ⟨y272, hy272⟩ : ∃ y_ : List Int, y_ = (x5_1 ++ [(rd l0_6 x45_1) % 256]) := ⟨_, rfl⟩
        replace H : (script_Put.l0 k1 y272 l0_6 (l0_6.length : Int) (wrap64 (x45_1 + 1)) a0_0 a0_1 a0_2 a0_3 a0_4 a0_5 l0_6 l0_7 l0_8 l0_9) = some (r1, r2) := by first | (rw [hy272]; with_reducible exact H) | (have H2_ := (Option.bind_some _ _).symm.trans H; rw [hy272]; with_reducible exact H2_) | (have H2_ := (Option.bind_some _ _).symm.trans H; with_reducible exact H2_) | with_reducible exact H | (rw [hy272]; exact H) | exact H
        have Ny272 := Aside0.mk hy272
        clear hy272
        have H' := Aside0.mk H
        clear H
        have p271 : 0 ≤ (x45_1 : Int) := of_decide_eq_true (by first | (with_reducible assumption) | assumption)
        have q271 : x45_1 < (l0_6.length : Int) := of_decide_eq_true (by first | (with_reducible assumption) | assumption)
        obtain ⟨ad271, e271, hx271_0⟩ := Kd.at_int HR0_6.out x45_1 p271 q271
        cases e271
        replace hx271_0 := (HB.out.cell (World.block_lt_of_cell? w _ hx271_0)).trans hx271_0
        replace p271 := eq_true p271
        replace q271 := eq_true q271
        go_wp2_with (first | ((with_reducible refine gate_builtin (b := .append) (xs := #[.tmp 49, .tmp 52]) rfl ?_); at_builtin; refine Kd.R_append (Kd.int .u8) (w0 := w) w.heap.size rfl (.tmp 49) (.tmp 52) 22 5 (.int .u8 0) 1 rfl Try.underlying22 info5 rfl (by decide) (by omega) u5 x5_1 ((rd l0_6 x45_1) % 256) [.int .u8 ((rd l0_6 x45_1) % 256)] (fun _ => True) (fun _ => False) rfl rfl ?aP (fun _ hk => hk.elim) ?aF ?aO ?aB ?aS ?aL ?_; (case aP => exact rfl); (case aB => exact (by repeat (first | (with_reducible first | exact HB.out | apply below_alloc | apply pw_below_drewN | apply below_drew1 | refine below_set ?_ GE265.out | refine below_set ?_ GE267.out) | exact HB.out))); (case aF => exact (fun _ _ => trivial)); (case aO => exact (by (with_reducible repeat (first | apply Kd.R_alloc | apply Kd.R_drewN | apply Kd.R_drew)); exact HO_5.out)); (case aS => exact (below_size (by repeat (first | (with_reducible first | exact HB.out | apply below_alloc | apply pw_below_drewN | apply below_drew1 | refine below_set ?_ GE265.out | refine below_set ?_ GE267.out) | exact HB.out)))); (case aL => have := LMc17.out; omega); intro v273 w18 ho hb hg hat; rw [← Ny272.out] at ho; have n0_ := Aside0.mk (blk_grown (g := gb265) (o := .cells #[.int .i64 a0_0, .int .i64 a0_1, .int .i64 a0_2, .int .i64 a0_3, .int .i64 a0_4, .int .i64 a0_5, .slice (some ad271) l0_6.length c0_6, .slice A0_7 l0_7.length c0_7, .slice A0_8 l0_8.length c0_8, .slice A0_9 l0_9.length c0_9] 30 (0, 0)) (by (with_reducible repeat (first | refine blk_drewN ?_ _ | refine blk_drew ?_ | refine blk_alloc ?_ _)); exact BK265.out) hg (Kd.R_ne HO_5.out BK265.out (by decide))); have n1_ := Aside0.mk (blk_grown (g := gb267) (o := .cells #[.int .i64 a0_0, .int .i64 a0_1, .int .i64 a0_2, .int .i64 a0_3, .int .i64 a0_4, .int .i64 a0_5] 25 (0, 0)) (by (with_reducible repeat (first | refine blk_drewN ?_ _ | refine blk_drew ?_ | refine blk_alloc ?_ _)); exact BK267.out) hg (Kd.R_ne HO_5.out BK267.out (by decide))); have n2_ := Aside0.mk (hb); have n3_ := Aside0.mk (ho); clear BK265; clear BK267; clear HB; clear HO_5; have BK265 := n0_; have BK267 := n1_; have HB := n2_; have HO274 := n3_; clear n0_ n1_ n2_ n3_; clear ho hb hg hat))
        go_roundg k1
        case measure => have := HK1.out; omega
        case rel => exact ⟨(y272), (wrap64 (x45_1 + 1)), (by first | rfl | (simp; done) | (simp [*]; done)), H', ⟨by have := HK1.out; omega⟩, ⟨by (with_reducible repeat (first | apply Kd.R_alloc | apply Kd.R_drewN | apply Kd.R_drew)); exact HO274.out⟩, ⟨by (with_reducible repeat (first | refine blk_drewN ?_ _ | refine blk_drew ?_ | refine blk_alloc ?_ _)); exact BK265.out⟩, ⟨by (with_reducible repeat (first | refine blk_drewN ?_ _ | refine blk_drew ?_ | refine blk_alloc ?_ _)); exact BK267.out⟩, ⟨by repeat (first | (with_reducible first | exact HB.out | apply below_alloc | apply pw_below_drewN | apply below_drew1 | refine below_set ?_ GE265.out | refine below_set ?_ GE267.out) | exact HB.out)⟩⟩
       ·rw [if_neg c17] at H
        exact absurd H (by simp)
      ·rw [if_neg c16] at H
       exact absurd H (by simp)
     ·rw [if_neg c15] at H
      exact absurd H (by simp)
    ·rw [if_neg c14] at H
     have c14b0 : decide (x45_1 < (l0_6.length : Int)) = false := decide_eq_false c14
     clear c14
     have H' := Aside0.mk H
     clear H
     have hnb19 := NB265_267.out
     have hnc19 := NB267_265.out
     have hcz20_0 : wr.cell? ⟨gb265, 0, none⟩ = some (.int .i64 a0_0) := (blk_cell BK265.out 0).trans rfl
     have hcz20_1 : wr.cell? ⟨gb265, 1, none⟩ = some (.int .i64 a0_1) := (blk_cell BK265.out 1).trans rfl
     have hcz20_2 : wr.cell? ⟨gb265, 2, none⟩ = some (.int .i64 a0_2) := (blk_cell BK265.out 2).trans rfl
     have hcz20_3 : wr.cell? ⟨gb265, 3, none⟩ = some (.int .i64 a0_3) := (blk_cell BK265.out 3).trans rfl
     have hcz20_4 : wr.cell? ⟨gb265, 4, none⟩ = some (.int .i64 a0_4) := (blk_cell BK265.out 4).trans rfl
     have hcz20_5 : wr.cell? ⟨gb265, 5, none⟩ = some (.int .i64 a0_5) := (blk_cell BK265.out 5).trans rfl
     have hcz20_6 : wr.cell? ⟨gb265, 6, none⟩ = some (.slice A0_6 l0_6.length c0_6) := (blk_cell BK265.out 6).trans rfl
     have hcz20_7 : wr.cell? ⟨gb265, 7, none⟩ = some (.slice A0_7 l0_7.length c0_7) := (blk_cell BK265.out 7).trans rfl
     have hcz20_8 : wr.cell? ⟨gb265, 8, none⟩ = some (.slice A0_8 l0_8.length c0_8) := (blk_cell BK265.out 8).trans rfl
     have hcz20_9 : wr.cell? ⟨gb265, 9, none⟩ = some (.slice A0_9 l0_9.length c0_9) := (blk_cell BK265.out 9).trans rfl
     have hfz20_0 := blk_frozen BK265.out 0
     have hfz20_1 := blk_frozen BK265.out 1
     have hfz20_2 := blk_frozen BK265.out 2
     have hfz20_3 := blk_frozen BK265.out 3
     have hfz20_4 := blk_frozen BK265.out 4
     have hfz20_5 := blk_frozen BK265.out 5
     have hfz20_6 := blk_frozen BK265.out 6
     have hfz20_7 := blk_frozen BK265.out 7
     have hfz20_8 := blk_frozen BK265.out 8
     have hfz20_9 := blk_frozen BK265.out 9
     go_wp2
     go_loopg [5, 58] k1 (fun kq v5 v58 w' => ∃ (x5_2 : List Int) (x58_2 : Int), v58 = .int .i64 x58_2 ∧ Aside0 (script_Put.l1 kq x5_2 l0_8 (l0_8.length : Int) x58_2 a0_0 a0_1 a0_2 a0_3 a0_4 a0_5 l0_6 l0_7 l0_8 l0_9 = some (r1, r2)) ∧ Aside0 (kq ≤ k1) ∧ Aside0 (Kd.R (Kd.int .u8) 5 w' w.heap.size (fun _ => True) v5 x5_2) ∧ Aside0 (w'.heap[gb265]? = some (.cells #[.int .i64 a0_0, .int .i64 a0_1, .int .i64 a0_2, .int .i64 a0_3, .int .i64 a0_4, .int .i64 a0_5, (.slice A0_6 l0_6.length c0_6), (.slice A0_7 l0_7.length c0_7), (.slice A0_8 l0_8.length c0_8), (.slice A0_9 l0_9.length c0_9)] 30 (0, 0))) ∧ Aside0 (w'.heap[gb267]? = some (.cells #[.int .i64 a0_0, .int .i64 a0_1, .int .i64 a0_2, .int .i64 a0_3, .int .i64 a0_4, .int .i64 a0_5] 25 (0, 0))) ∧ Aside0 (Below w.heap.size w w'))
     case atStart => exact ⟨(x5_1), (0), (by first | rfl | (simp; done) | (simp [*]; done)), H', ⟨Nat.le_refl _⟩, ⟨by (with_reducible repeat (first | apply Kd.R_alloc | apply Kd.R_drewN | apply Kd.R_drew)); exact HO_5.out⟩, ⟨by (with_reducible repeat (first | refine blk_drewN ?_ _ | refine blk_drew ?_ | refine blk_alloc ?_ _)); exact BK265.out⟩, ⟨by (with_reducible repeat (first | refine blk_drewN ?_ _ | refine blk_drew ?_ | refine blk_alloc ?_ _)); exact BK267.out⟩, ⟨by repeat (first | (with_reducible first | exact HB.out | apply below_alloc | apply pw_below_drewN | apply below_drew1 | refine below_set ?_ GE265.out | refine below_set ?_ GE267.out) | exact HB.out)⟩⟩
     case round =>
      clear H'
      try clear c1
      try clear p2
      try clear q2
      try clear hx2
      try clear c3
      try clear p6
      try clear c9
      try clear c14
      try clear c14b0
      try clear c15
      try clear c15b0
      try clear c16
      try clear c16b0
      try clear c17
      try clear c19
      try clear hcz10_0
      try clear hcz10_1
      try clear hcz10_2
      try clear hcz10_3
      try clear hcz10_4
      try clear hcz10_5
      try clear hcz13_0
      try clear hcz13_1
      try clear hcz13_2
      try clear hcz13_3
      try clear hcz13_4
      try clear hcz13_5
      try clear hcz13_6
      try clear hcz13_7
      try clear hcz13_8
      try clear hcz13_9
      try clear hcz20_0
      try clear hcz20_1
      try clear hcz20_2
      try clear hcz20_3
      try clear hcz20_4
      try clear hcz20_5
      try clear hcz20_6
      try clear hcz20_7
      try clear hcz20_8
      try clear hcz20_9
      try clear hcz5_0
      try clear hcz5_1
      try clear hcz5_2
      try clear hcz5_3
      try clear hcz5_4
      try clear hcz5_5
      try clear hcz5_6
      try clear hcz5_7
      try clear hcz5_8
      try clear hcz5_9
      try clear hcz7_0
      try clear hcz7_1
      try clear hcz7_2
      try clear hcz7_3
      try clear hcz7_4
      try clear hcz7_5
      try clear hcz7_6
      try clear hcz7_7
      try clear hcz7_8
      try clear hcz7_9
      try clear hfz10_0
      try clear hfz10_1
      try clear hfz10_2
      try clear hfz10_3
      try clear hfz10_4
      try clear hfz10_5
      try clear hfz13_0
      try clear hfz13_1
      try clear hfz13_2
      try clear hfz13_3
      try clear hfz13_4
      try clear hfz13_5
      try clear hfz13_6
      try clear hfz13_7
      try clear hfz13_8
      try clear hfz13_9
      try clear hfz20_0
      try clear hfz20_1
      try clear hfz20_2
      try clear hfz20_3
      try clear hfz20_4
      try clear hfz20_5
      try clear hfz20_6
      try clear hfz20_7
      try clear hfz20_8
      try clear hfz20_9
      try clear hfz5_0
      try clear hfz5_1
      try clear hfz5_2
      try clear hfz5_3
      try clear hfz5_4
      try clear hfz5_5
      try clear hfz5_6
      try clear hfz5_7
      try clear hfz5_8
      try clear hfz5_9
      try clear hfz7_0
      try clear hfz7_1
      try clear hfz7_2
      try clear hfz7_3
      try clear hfz7_4
      try clear hfz7_5
      try clear hfz7_6
      try clear hfz7_7
      try clear hfz7_8
      try clear hfz7_9
      try clear hx271_0
      try clear p2
      try clear p271
      try clear q271
      obtain ⟨x5_2, x58_2, rfl, HA, HK2, HO_5, BK265, BK267, HB⟩ := hrel
      cases gk with
      | zero => exact absurd HA.out (by simp [script_Put.l1])
      | succ k2 =>
       have H := HA.out
       clear HA
       simp only [script_Put.l1] at H
       by_cases c21 : x58_2 < (l0_8.length : Int)
       ·rw [if_pos c21] at H
        have c21b0 : decide (x58_2 < (l0_8.length : Int)) = true := decide_eq_true c21
        clear c21
        by_cases c22 : 0 ≤ x58_2
        ·rw [if_pos c22] at H
         have c22b0 : decide (0 ≤ x58_2) = true := decide_eq_true c22
         clear c22
         by_cases c23 : x58_2 < (l0_8.length : Int)
         ·rw [if_pos c23] at H
          have c23b0 : decide (x58_2 < (l0_8.length : Int)) = true := decide_eq_true c23
          clear c23
          by_cases c24 : x5_2.length < 140737488355328
          ·rw [if_pos c24] at H
           have LMc24 := Aside0.mk c24
           clear c24
           obtain ⟨y276, hy276⟩ : ∃ y_ : List Int, y_ = (x5_2 ++ [(((rd_L7 l0_8 x58_2).length : Int)) % 256]) := ⟨_, rfl⟩
           replace H : (script_Put.l2 k2 y276 l0_8 (l0_8.length : Int) x58_2 (rd_L7 l0_8 x58_2) ((rd_L7 l0_8 x58_2).length : Int) 0 a0_0 a0_1 a0_2 a0_3 a0_4 a0_5 l0_6 l0_7 l0_8 l0_9) = some (r1, r2) := by first | (rw [hy276]; with_reducible exact H) | (have H2_ := (Option.bind_some _ _).symm.trans H; rw [hy276]; with_reducible exact H2_) | (have H2_ := (Option.bind_some _ _).symm.trans H; with_reducible exact H2_) | with_reducible exact H | (rw [hy276]; exact H) | exact H
           have Ny276 := Aside0.mk hy276
           clear hy276
           have H' := Aside0.mk H
           clear H
           have p275 : 0 ≤ (x58_2 : Int) := of_decide_eq_true (by first | (with_reducible assumption) | assumption)
           have q275 : x58_2 < (l0_8.length : Int) := of_decide_eq_true (by first | (with_reducible assumption) | assumption)
           obtain ⟨ad275, A275_0, c275_0, e275, hx275_0, hl275_0, hi275_0⟩ := at_L7 HR0_8.out x58_2 p275 q275
           cases e275
           replace hx275_0 := (HB.out.cell (World.block_lt_of_cell? w _ hx275_0)).trans hx275_0
           have HR275_0 := Aside0.mk hi275_0
           have HC275_0 := Aside0.mk hl275_0
           clear hi275_0 hl275_0
           replace p275 := eq_true p275
           replace q275 := eq_true q275
           go_wp2_with (first | ((with_reducible refine gate_builtin (b := .append) (xs := #[.tmp 62, .tmp 66]) rfl ?_); at_builtin; refine Kd.R_append (Kd.int .u8) (w0 := w) w.heap.size rfl (.tmp 62) (.tmp 66) 22 5 (.int .u8 0) 1 rfl Try.underlying22 info5 rfl (by decide) (by omega) u5 x5_2 ((((rd_L7 l0_8 x58_2).length : Int)) % 256) [.int .u8 ((((rd_L7 l0_8 x58_2).length : Int)) % 256)] (fun _ => True) (fun _ => False) rfl rfl ?aP (fun _ hk => hk.elim) ?aF ?aO ?aB ?aS ?aL ?_; (case aP => exact rfl); (case aB => exact (by repeat (first | (with_reducible first | exact HB.out | apply below_alloc | apply pw_below_drewN | apply below_drew1 | refine below_set ?_ GE265.out | refine below_set ?_ GE267.out) | exact HB.out))); (case aF => exact (fun _ _ => trivial)); (case aO => exact (by (with_reducible repeat (first | apply Kd.R_alloc | apply Kd.R_drewN | apply Kd.R_drew)); exact HO_5.out)); (case aS => exact (below_size (by repeat (first | (with_reducible first | exact HB.out | apply below_alloc | apply pw_below_drewN | apply below_drew1 | refine below_set ?_ GE265.out | refine below_set ?_ GE267.out) | exact HB.out)))); (case aL => have := LMc24.out; omega); intro v277 w25 ho hb hg hat; rw [← Ny276.out] at ho; have n0_ := Aside0.mk (blk_grown (g := gb265) (o := .cells #[.int .i64 a0_0, .int .i64 a0_1, .int .i64 a0_2, .int .i64 a0_3, .int .i64 a0_4, .int .i64 a0_5, .slice A0_6 l0_6.length c0_6, .slice A0_7 l0_7.length c0_7, .slice (some ad275) l0_8.length c0_8, .slice A0_9 l0_9.length c0_9] 30 (0, 0)) (by (with_reducible repeat (first | refine blk_drewN ?_ _ | refine blk_drew ?_ | refine blk_alloc ?_ _)); exact BK265.out) hg (Kd.R_ne HO_5.out BK265.out (by decide))); have n1_ := Aside0.mk (blk_grown (g := gb267) (o := .cells #[.int .i64 a0_0, .int .i64 a0_1, .int .i64 a0_2, .int .i64 a0_3, .int .i64 a0_4, .int .i64 a0_5] 25 (0, 0)) (by (with_reducible repeat (first | refine blk_drewN ?_ _ | refine blk_drew ?_ | refine blk_alloc ?_ _)); exact BK267.out) hg (Kd.R_ne HO_5.out BK267.out (by decide))); have n2_ := Aside0.mk (hb); have n3_ := Aside0.mk (ho); clear BK265; clear BK267; clear HB; clear HO_5; have BK265 := n0_; have BK267 := n1_; have HB := n2_; have HO278 := n3_; clear n0_ n1_ n2_ n3_; clear ho hb hg hat))
           go_loopg [5, 70] k2 (fun kq v5 v70 w' => ∃ (x5_3 : List Int) (x70_3 : Int), v70 = .int .i64 x70_3 ∧ Aside0 (script_Put.l2 kq x5_3 l0_8 (l0_8.length : Int) x58_2 (rd_L7 l0_8 x58_2) ((rd_L7 l0_8 x58_2).length : Int) x70_3 a0_0 a0_1 a0_2 a0_3 a0_4 a0_5 l0_6 l0_7 l0_8 l0_9 = some (r1, r2)) ∧ Aside0 (kq ≤ k2) ∧ Aside0 (Kd.R (Kd.int .u8) 5 w' w.heap.size (fun _ => True) v5 x5_3) ∧ Aside0 (w'.heap[gb265]? = some (.cells #[.int .i64 a0_0, .int .i64 a0_1, .int .i64 a0_2, .int .i64 a0_3, .int .i64 a0_4, .int .i64 a0_5, (.slice A0_6 l0_6.length c0_6), (.slice A0_7 l0_7.length c0_7), (.slice (some ad275) l0_8.length c0_8), (.slice A0_9 l0_9.length c0_9)] 30 (0, 0))) ∧ Aside0 (w'.heap[gb267]? = some (.cells #[.int .i64 a0_0, .int .i64 a0_1, .int .i64 a0_2, .int .i64 a0_3, .int .i64 a0_4, .int .i64 a0_5] 25 (0, 0))) ∧ Aside0 (Below w.heap.size w w'))
           case atStart => exact ⟨(y276), (0), (by first | rfl | (simp; done) | (simp [*]; done)), H', ⟨Nat.le_refl _⟩, ⟨by (with_reducible repeat (first | apply Kd.R_alloc | apply Kd.R_drewN | apply Kd.R_drew)); exact HO278.out⟩, ⟨by (with_reducible repeat (first | refine blk_drewN ?_ _ | refine blk_drew ?_ | refine blk_alloc ?_ _)); exact BK265.out⟩, ⟨by (with_reducible repeat (first | refine blk_drewN ?_ _ | refine blk_drew ?_ | refine blk_alloc ?_ _)); exact BK267.out⟩, ⟨by repeat (first | (with_reducible first | exact HB.out | apply below_alloc | apply pw_below_drewN | apply below_drew1 | refine below_set ?_ GE265.out | refine below_set ?_ GE267.out) | exact HB.out)⟩⟩
           case round =>
            clear H'
            try clear c1
            try clear c2
            try clear p2
            try clear q2
            try clear hx2
            try clear c3
            try clear p6
            try clear c9
            try clear c14
            try clear c14b0
            try clear c15
            try clear c15b0
            try clear c16
            try clear c16b0
            try clear c17
            try clear c19
            try clear c21
            try clear c21b0
            try clear c22
            try clear c22b0
            try clear c23
            try clear c23b0
            try clear c24
            try clear hcz10_0
            try clear hcz10_1
            try clear hcz10_2
            try clear hcz10_3
            try clear hcz10_4
            try clear hcz10_5
            try clear hcz13_0
            try clear hcz13_1
            try clear hcz13_2
            try clear hcz13_3
            try clear hcz13_4
            try clear hcz13_5
            try clear hcz13_6
            try clear hcz13_7
            try clear hcz13_8
            try clear hcz13_9
            try clear hcz20_0
            try clear hcz20_1
            try clear hcz20_2
            try clear hcz20_3
            try clear hcz20_4
            try clear hcz20_5
            try clear hcz20_6
            try clear hcz20_7
            try clear hcz20_8
            try clear hcz20_9
            try clear hcz5_0
            try clear hcz5_1
            try clear hcz5_2
            try clear hcz5_3
            try clear hcz5_4
            try clear hcz5_5
            try clear hcz5_6
            try clear hcz5_7
            try clear hcz5_8
            try clear hcz5_9
            try clear hcz7_0
            try clear hcz7_1
            try clear hcz7_2
            try clear hcz7_3
            try clear hcz7_4
            try clear hcz7_5
            try clear hcz7_6
            try clear hcz7_7
            try clear hcz7_8
            try clear hcz7_9
            try clear hfz10_0
            try clear hfz10_1
            try clear hfz10_2
            try clear hfz10_3
            try clear hfz10_4
            try clear hfz10_5
            try clear hfz13_0
            try clear hfz13_1
            try clear hfz13_2
            try clear hfz13_3
            try clear hfz13_4
            try clear hfz13_5
            try clear hfz13_6
            try clear hfz13_7
            try clear hfz13_8
            try clear hfz13_9
            try clear hfz20_0
            try clear hfz20_1
            try clear hfz20_2
            try clear hfz20_3
            try clear hfz20_4
            try clear hfz20_5
            try clear hfz20_6
            try clear hfz20_7
            try clear hfz20_8
            try clear hfz20_9
            try clear hfz5_0
            try clear hfz5_1
            try clear hfz5_2
            try clear hfz5_3
            try clear hfz5_4
            try clear hfz5_5
            try clear hfz5_6
            try clear hfz5_7
            try clear hfz5_8
            try clear hfz5_9
            try clear hfz7_0
            try clear hfz7_1
            try clear hfz7_2
            try clear hfz7_3
            try clear hfz7_4
            try clear hfz7_5
            try clear hfz7_6
            try clear hfz7_7
            try clear hfz7_8
            try clear hfz7_9
            try clear hx271_0
            try clear hx275_0
            try clear p2
            try clear p271
            try clear p275
            try clear p6
            try clear q2
            try clear q271
            try clear q275
            obtain ⟨x5_3, x70_3, rfl, HA, HK3, HO_5, BK265, BK267, HB⟩ := hrel
            cases gk with
            | zero => exact absurd HA.out (by simp [script_Put.l2])
            | succ k3 =>
             have H := HA.out
             clear HA
             simp only [script_Put.l2] at H
             by_cases c26 : x70_3 < ((rd_L7 l0_8 x58_2).length : Int)
             ·rw [if_pos c26] at H
              have c26b0 : decide (x70_3 < ((rd_L7 l0_8 x58_2).length : Int)) = true := decide_eq_true c26
              clear c26
              by_cases c27 : 0 ≤ x70_3
              ·rw [if_pos c27] at H
               have c27b0 : decide (0 ≤ x70_3) = true := decide_eq_true c27
               clear c27
               by_cases c28 : x70_3 < ((rd_L7 l0_8 x58_2).length : Int)
               ·rw [if_pos c28] at H
                have c28b0 : decide (x70_3 < ((rd_L7 l0_8 x58_2).length : Int)) = true := decide_eq_true c28
                clear c28
                by_cases c29 : x5_3.length < 140737488355328
                ·rw [if_pos c29] at H
                 have LMc29 := Aside0.mk c29
                 clear c29
                 obtain ⟨y280, hy280⟩ : ∃ y_ : List Int, y_ = (x5_3 ++ [(((rd_L6 (rd_L7 l0_8 x58_2) x70_3).length : Int)) % 256]) := ⟨_, rfl⟩
                 replace H : ((lang_Put.f k3 (rd_L6 (rd_L7 l0_8 x58_2) x70_3)).bind fun t283 => (if y280.length + t283.length < 140737488355328 then (script_Put.l2 k3 (y280 ++ t283) l0_8 (l0_8.length : Int) x58_2 (rd_L7 l0_8 x58_2) ((rd_L7 l0_8 x58_2).length : Int) (wrap64 (x70_3 + 1)) a0_0 a0_1 a0_2 a0_3 a0_4 a0_5 l0_6 l0_7 l0_8 l0_9) else (none))) = some (r1, r2) := by first | (rw [hy280]; with_reducible exact H) | (have H2_ := (Option.bind_some _ _).symm.trans H; rw [hy280]; with_reducible exact H2_) | (have H2_ := (Option.bind_some _ _).symm.trans H; with_reducible exact H2_) | with_reducible exact H | (rw [hy280]; exact H) | exact H
                 have Ny280 := Aside0.mk hy280
                 clear hy280
                 replace H := Option.bind_eq_some_iff.mp H
                 obtain ⟨t283, A300, H⟩ := H
                 replace H : (if y280.length + t283.length < 140737488355328 then (script_Put.l2 k3 (y280 ++ t283) l0_8 (l0_8.length : Int) x58_2 (rd_L7 l0_8 x58_2) ((rd_L7 l0_8 x58_2).length : Int) (wrap64 (x70_3 + 1)) a0_0 a0_1 a0_2 a0_3 a0_4 a0_5 l0_6 l0_7 l0_8 l0_9) else (none)) = some (r1, r2) := H
                 have A30 := Aside0.mk A300
                 clear A300
                 by_cases c31 : y280.length + t283.length < 140737488355328
                 ·rw [if_pos c31] at H
                  have LMc31 := Aside0.mk c31
                  clear c31
                  obtain ⟨y286, hy286⟩ : ∃ y_ : List Int, y_ = (y280 ++ t283) := ⟨_, rfl⟩
                  replace H : (script_Put.l2 k3 y286 l0_8 (l0_8.length : Int) x58_2 (rd_L7 l0_8 x58_2) ((rd_L7 l0_8 x58_2).length : Int) (wrap64 (x70_3 + 1)) a0_0 a0_1 a0_2 a0_3 a0_4 a0_5 l0_6 l0_7 l0_8 l0_9) = some (r1, r2) := by first | (rw [hy286]; with_reducible exact H) | (have H2_ := (Option.bind_some _ _).symm.trans H; rw [hy286]; with_reducible exact H2_) | (have H2_ := (Option.bind_some _ _).symm.trans H; with_reducible exact H2_) | with_reducible exact H | (rw [hy286]; exact H) | exact H
                  have Ny286 := Aside0.mk hy286
                  clear hy286
                  have H' := Aside0.mk H
                  clear H
                  have p279 : 0 ≤ (x70_3 : Int) := of_decide_eq_true (by first | (with_reducible assumption) | assumption)
                  have q279 : x70_3 < ((rd_L7 l0_8 x58_2).length : Int) := of_decide_eq_true (by first | (with_reducible assumption) | assumption)
                  obtain ⟨ad279, A279_0, c279_0, e279, hx279_0, hl279_0, hi279_0⟩ := at_L6 HR275_0.out x70_3 p279 q279
                  cases e279
                  replace hx279_0 := (HB.out.cell (World.block_lt_of_cell? w _ hx279_0)).trans hx279_0
                  have HR279_0 := Aside0.mk hi279_0
                  have HC279_0 := Aside0.mk hl279_0
                  clear hi279_0 hl279_0
                  replace p279 := eq_true p279
                  replace q279 := eq_true q279
                  go_wp2_with (first | ((with_reducible refine gate_builtin (b := .append) (xs := #[.tmp 74, .tmp 78]) rfl ?_); at_builtin; refine Kd.R_append (Kd.int .u8) (w0 := w) w.heap.size rfl (.tmp 74) (.tmp 78) 22 5 (.int .u8 0) 1 rfl Try.underlying22 info5 rfl (by decide) (by omega) u5 x5_3 ((((rd_L6 (rd_L7 l0_8 x58_2) x70_3).length : Int)) % 256) [.int .u8 ((((rd_L6 (rd_L7 l0_8 x58_2) x70_3).length : Int)) % 256)] (fun _ => True) (fun _ => False) rfl rfl ?aP (fun _ hk => hk.elim) ?aF ?aO ?aB ?aS ?aL ?_; (case aP => exact rfl); (case aB => exact (by repeat (first | (with_reducible first | exact HB.out | apply below_alloc | apply pw_below_drewN | apply below_drew1 | refine below_set ?_ GE265.out | refine below_set ?_ GE267.out) | exact HB.out))); (case aF => exact (fun _ _ => trivial)); (case aO => exact (by (with_reducible repeat (first | apply Kd.R_alloc | apply Kd.R_drewN | apply Kd.R_drew)); exact HO_5.out)); (case aS => exact (below_size (by repeat (first | (with_reducible first | exact HB.out | apply below_alloc | apply pw_below_drewN | apply below_drew1 | refine below_set ?_ GE265.out | refine below_set ?_ GE267.out) | exact HB.out)))); (case aL => have := LMc29.out; omega); intro v281 w32 ho hb hg hat; rw [← Ny280.out] at ho; have n0_ := Aside0.mk (blk_grown (g := gb265) (o := .cells #[.int .i64 a0_0, .int .i64 a0_1, .int .i64 a0_2, .int .i64 a0_3, .int .i64 a0_4, .int .i64 a0_5, .slice A0_6 l0_6.length c0_6, .slice A0_7 l0_7.length c0_7, .slice (some ad275) l0_8.length c0_8, .slice A0_9 l0_9.length c0_9] 30 (0, 0)) (by (with_reducible repeat (first | refine blk_drewN ?_ _ | refine blk_drew ?_ | refine blk_alloc ?_ _)); exact BK265.out) hg (Kd.R_ne HO_5.out BK265.out (by decide))); have n1_ := Aside0.mk (blk_grown (g := gb267) (o := .cells #[.int .i64 a0_0, .int .i64 a0_1, .int .i64 a0_2, .int .i64 a0_3, .int .i64 a0_4, .int .i64 a0_5] 25 (0, 0)) (by (with_reducible repeat (first | refine blk_drewN ?_ _ | refine blk_drew ?_ | refine blk_alloc ?_ _)); exact BK267.out) hg (Kd.R_ne HO_5.out BK267.out (by decide))); have n2_ := Aside0.mk (hb); have n3_ := Aside0.mk (ho); clear BK265; clear BK267; clear HB; clear HO_5; have BK265 := n0_; have BK267 := n1_; have HB := n2_; have HO282 := n3_; clear n0_ n1_ n2_ n3_; clear ho hb hg hat) | ((with_reducible refine gate_callee (f := 33) rfl ?_); refine goesL_ (some 81) rfl rfl Try.func33 (by kernel_rfl) rfl #[.slice A279_0 (rd_L6 (rd_L7 l0_8 x58_2) x70_3).length c279_0] rfl (by (try simp only [List.map_toArray, List.map_cons, List.map_nil]); first | done | rfl | (simp only [List.length_drop, List.length_take]; rfl)) ?_; (with_reducible refine (lang_Put.calls k3 _ _ (rd_L6 (rd_L7 l0_8 x58_2) x70_3) t283 _ ?side1 ?side2 A30.out).mono ?_); (case side1 => repeat (first | exact (Kd.C_below HR279_0.out HB.out) | (with_reducible refine Kd.C_alloc ?_ _) | (with_reducible refine Kd.C_drewN ?_ _) | (with_reducible refine Kd.C_drew ?_))); (case side2 => exact HC279_0.out); rintro e w33 ⟨v284, rfl, ho0, hb⟩; refine ⟨_, rfl, ?_⟩; have n0_ := Aside0.mk (Kd.R_elder' (by (with_reducible repeat (first | apply Kd.R_alloc | apply Kd.R_drewN | apply Kd.R_drew)); exact HO282.out) (Kd.R_base ho0) hb); have n1_ := Aside0.mk (Kd.R_lower (Kd.R_new' ho0 (Kd.R_lt (by (with_reducible repeat (first | apply Kd.R_alloc | apply Kd.R_drewN | apply Kd.R_drew)); exact HO282.out))) (below_size (by repeat (first | (with_reducible first | exact HB.out | apply below_alloc | apply pw_below_drewN | apply below_drew1 | refine below_set ?_ GE265.out | refine below_set ?_ GE267.out) | exact HB.out)))); have n2_ := Aside0.mk (blk_below (g := gb265) (o := .cells #[.int .i64 a0_0, .int .i64 a0_1, .int .i64 a0_2, .int .i64 a0_3, .int .i64 a0_4, .int .i64 a0_5, .slice A0_6 l0_6.length c0_6, .slice A0_7 l0_7.length c0_7, .slice (some ad275) l0_8.length c0_8, .slice A0_9 l0_9.length c0_9] 30 (0, 0)) (by (with_reducible repeat (first | refine blk_drewN ?_ _ | refine blk_drew ?_ | refine blk_alloc ?_ _)); exact BK265.out) hb); have n3_ := Aside0.mk (blk_below (g := gb267) (o := .cells #[.int .i64 a0_0, .int .i64 a0_1, .int .i64 a0_2, .int .i64 a0_3, .int .i64 a0_4, .int .i64 a0_5] 25 (0, 0)) (by (with_reducible repeat (first | refine blk_drewN ?_ _ | refine blk_drew ?_ | refine blk_alloc ?_ _)); exact BK267.out) hb); have n4_ := Aside0.mk (below_step (by repeat (first | (with_reducible first | exact HB.out | apply below_alloc | apply pw_below_drewN | apply below_drew1 | refine below_set ?_ GE265.out | refine below_set ?_ GE267.out) | exact HB.out)) hb); clear HO282; clear BK265; clear BK267; clear HB; have HO282 := n0_; have HO285 := n1_; have BK265 := n2_; have BK267 := n3_; have HB := n4_; clear n0_ n1_ n2_ n3_ n4_; (try clear hb); (try clear hb2); (try clear hk); (try clear hi); (try clear ho0); obtain ⟨Ao35, co35, eo35⟩ := Kd.R_slice HO285.out; subst eo35) | ((with_reducible refine gate_builtin (b := .append) (xs := #[.tmp 79, .tmp 81]) rfl ?_); at_builtin; refine Kd.R_append_rows (Kd.int .u8) (w0 := w) w.heap.size rfl (.tmp 79) (.tmp 81) 22 5 (.int .u8 0) 1 rfl Try.underlying22 info5 rfl (by decide) (by omega) v281 y280 t283 _ _ _ (fun k_ => some k_ ≠ (.slice Ao35 t283.length co35 : Value).ownBlock) (fun _ => False) rfl rfl ?aO ?aR (fun _ _ h => h) (fun _ h => h.elim) ?aF ?aB ?aS ?aL ?_; (case aR => repeat (first | exact (Kd.R_reads' HO285.out).2.2 | (with_reducible refine Kd.C_alloc ?_ _) | (with_reducible refine Kd.C_drewN ?_ _) | (with_reducible refine Kd.C_drew ?_))); (case aB => exact (by repeat (first | (with_reducible first | exact HB.out | apply below_alloc | apply pw_below_drewN | apply below_drew1 | refine below_set ?_ GE265.out | refine below_set ?_ GE267.out) | exact HB.out))); (case aF => exact (fun k_ hk => Kd.fresh' (Kd.R_lt (by (with_reducible repeat (first | apply Kd.R_alloc | apply Kd.R_drewN | apply Kd.R_drew)); exact HO285.out)) k_ hk)); (case aO => exact (by (with_reducible repeat (first | apply Kd.R_alloc | apply Kd.R_drewN | apply Kd.R_drew)); exact Kd.R_mono HO282.out (fun _ hk => hk.2))); (case aS => exact (below_size (by repeat (first | (with_reducible first | exact HB.out | apply below_alloc | apply pw_below_drewN | apply below_drew1 | refine below_set ?_ GE265.out | refine below_set ?_ GE267.out) | exact HB.out)))); (case aL => have := LMc31.out; omega); intro v287 w34 ho hb hg hat; rw [← Ny286.out] at ho; have n0_ := Aside0.mk (blk_grown (g := gb265) (o := .cells #[.int .i64 a0_0, .int .i64 a0_1, .int .i64 a0_2, .int .i64 a0_3, .int .i64 a0_4, .int .i64 a0_5, .slice A0_6 l0_6.length c0_6, .slice A0_7 l0_7.length c0_7, .slice (some ad275) l0_8.length c0_8, .slice A0_9 l0_9.length c0_9] 30 (0, 0)) (by (with_reducible repeat (first | refine blk_drewN ?_ _ | refine blk_drew ?_ | refine blk_alloc ?_ _)); exact BK265.out) hg (Kd.R_ne HO282.out BK265.out (by decide))); have n1_ := Aside0.mk (blk_grown (g := gb267) (o := .cells #[.int .i64 a0_0, .int .i64 a0_1, .int .i64 a0_2, .int .i64 a0_3, .int .i64 a0_4, .int .i64 a0_5] 25 (0, 0)) (by (with_reducible repeat (first | refine blk_drewN ?_ _ | refine blk_drew ?_ | refine blk_alloc ?_ _)); exact BK267.out) hg (Kd.R_ne HO282.out BK267.out (by decide))); have n2_ := Aside0.mk (Kd.R_after (ok := (fun _ => True)) (by (with_reducible repeat (first | apply Kd.R_alloc | apply Kd.R_drewN | apply Kd.R_drew)); exact HO285.out) hg hat); have n3_ := Aside0.mk (hb); have n4_ := Aside0.mk (ho); clear BK265; clear BK267; clear HO285; clear HB; clear HO282; have BK265 := n0_; have BK267 := n1_; have HO285 := n2_; have HB := n3_; have HO288 := n4_; clear n0_ n1_ n2_ n3_ n4_; clear ho hb hg hat))
                  go_roundg k3
                  case measure => have := HK1.out; have := HK2.out; have := HK3.out; omega
                  case rel => exact ⟨(y286), (wrap64 (x70_3 + 1)), (by first | rfl | (simp; done) | (simp [*]; done)), H', ⟨by have := HK1.out; have := HK2.out; have := HK3.out; omega⟩, ⟨by (with_reducible repeat (first | apply Kd.R_alloc | apply Kd.R_drewN | apply Kd.R_drew)); exact Kd.R_mono HO288.out (fun _ hk => trivial)⟩, ⟨by (with_reducible repeat (first | refine blk_drewN ?_ _ | refine blk_drew ?_ | refine blk_alloc ?_ _)); exact BK265.out⟩, ⟨by (with_reducible repeat (first | refine blk_drewN ?_ _ | refine blk_drew ?_ | refine blk_alloc ?_ _)); exact BK267.out⟩, ⟨by repeat (first | (with_reducible first | exact HB.out | apply below_alloc | apply pw_below_drewN | apply below_drew1 | refine below_set ?_ GE265.out | refine below_set ?_ GE267.out) | exact HB.out)⟩⟩
                 ·rw [if_neg c31] at H
                  exact absurd H (by simp)
                ·rw [if_neg c29] at H
                 exact absurd H (by simp)
               ·rw [if_neg c28] at H
                exact absurd H (by simp)
              ·rw [if_neg c27] at H
               exact absurd H (by simp)
             ·rw [if_neg c26] at H
              have c26b0 : decide (x70_3 < ((rd_L7 l0_8 x58_2).length : Int)) = false := decide_eq_false c26
              clear c26
              have H' := Aside0.mk H
              clear H
              go_wp2
              go_roundg k3
              case measure => have := HK1.out; have := HK2.out; have := HK3.out; omega
              case rel => exact ⟨(x5_3), (wrap64 (x58_2 + 1)), (by first | rfl | (simp; done) | (simp [*]; done)), H', ⟨by have := HK1.out; have := HK2.out; have := HK3.out; omega⟩, ⟨by (with_reducible repeat (first | apply Kd.R_alloc | apply Kd.R_drewN | apply Kd.R_drew)); exact HO_5.out⟩, ⟨by (with_reducible repeat (first | refine blk_drewN ?_ _ | refine blk_drew ?_ | refine blk_alloc ?_ _)); exact BK265.out⟩, ⟨by (with_reducible repeat (first | refine blk_drewN ?_ _ | refine blk_drew ?_ | refine blk_alloc ?_ _)); exact BK267.out⟩, ⟨by repeat (first | (with_reducible first | exact HB.out | apply below_alloc | apply pw_below_drewN | apply below_drew1 | refine below_set ?_ GE265.out | refine below_set ?_ GE267.out) | exact HB.out)⟩⟩
          ·rw [if_neg c24] at H
           exact absurd H (by simp)
         ·rw [if_neg c23] at H
          exact absurd H (by simp)
        ·rw [if_neg c22] at H
         exact absurd H (by simp)
       ·rw [if_neg c21] at H
        have c21b0 : decide (x58_2 < (l0_8.length : Int)) = false := decide_eq_false c21
        clear c21
        by_cases c36 : x5_2.length < 140737488355328
        ·rw [if_pos c36] at H
         have LMc36 := Aside0.mk c36
         clear c36
         obtain ⟨y289, hy289⟩ : ∃ y_ : List Int, y_ = (x5_2 ++ [((l0_7.length : Int)) % 256]) := ⟨_, rfl⟩
         replace H : (if y289.length + l0_7.length < 140737488355328 then (script_Put.l3 k2 (y289 ++ l0_7) l0_9 (l0_9.length : Int) 0) else (none)) = some (r1, r2) := by first | (rw [hy289]; with_reducible exact H) | (have H2_ := (Option.bind_some _ _).symm.trans H; rw [hy289]; with_reducible exact H2_) | (have H2_ := (Option.bind_some _ _).symm.trans H; with_reducible exact H2_) | with_reducible exact H | (rw [hy289]; exact H) | exact H
         have Ny289 := Aside0.mk hy289
         clear hy289
         by_cases c37 : y289.length + l0_7.length < 140737488355328
         ·rw [if_pos c37] at H
          have LMc37 := Aside0.mk c37
          clear c37
          obtain ⟨y292, hy292⟩ : ∃ y_ : List Int, y_ = (y289 ++ l0_7) := ⟨_, rfl⟩
          replace H : (script_Put.l3 k2 y292 l0_9 (l0_9.length : Int) 0) = some (r1, r2) := by first | (rw [hy292]; with_reducible exact H) | (have H2_ := (Option.bind_some _ _).symm.trans H; rw [hy292]; with_reducible exact H2_) | (have H2_ := (Option.bind_some _ _).symm.trans H; with_reducible exact H2_) | with_reducible exact H | (rw [hy292]; exact H) | exact H
          have Ny292 := Aside0.mk hy292
          clear hy292
          have H' := Aside0.mk H
          clear H
          try go_wp2
          have n0_ := Aside0.mk (Kd.R_drew HO_5.out)
          have n1_ := Aside0.mk (blk_drew BK265.out)
          have n2_ := Aside0.mk (blk_drew BK267.out)
          have n3_ := Aside0.mk (below_drew1 HB.out)
          clear HO_5
          clear BK265
          clear BK267
          clear HB
          have HO_5 := n0_
          have BK265 := n1_
          have BK267 := n2_
          have HB := n3_
          clear n0_ n1_ n2_ n3_
          refine start_ (n := 11) (S := fun w' => w'.cell? ⟨gb265, 0, none⟩ = some (.int .i64 a0_0) ∧ w'.cell? ⟨gb265, 1, none⟩ = some (.int .i64 a0_1) ∧ w'.cell? ⟨gb265, 2, none⟩ = some (.int .i64 a0_2) ∧ w'.cell? ⟨gb265, 3, none⟩ = some (.int .i64 a0_3) ∧ w'.cell? ⟨gb265, 4, none⟩ = some (.int .i64 a0_4) ∧ w'.cell? ⟨gb265, 5, none⟩ = some (.int .i64 a0_5) ∧ w'.cell? ⟨gb265, 6, none⟩ = some (.slice A0_6 l0_6.length c0_6) ∧ w'.cell? ⟨gb265, 7, none⟩ = some (.slice A0_7 l0_7.length c0_7) ∧ w'.cell? ⟨gb265, 8, none⟩ = some (.slice A0_8 l0_8.length c0_8) ∧ w'.cell? ⟨gb265, 9, none⟩ = some (.slice A0_9 l0_9.length c0_9)) (ds := []) #[false, false, false, false, false, false, false, false, false, false, false] (by kernel_rfl) rfl rfl ⟨(blk_cell BK265.out 0).trans rfl, (blk_cell BK265.out 1).trans rfl, (blk_cell BK265.out 2).trans rfl, (blk_cell BK265.out 3).trans rfl, (blk_cell BK265.out 4).trans rfl, (blk_cell BK265.out 5).trans rfl, (blk_cell BK265.out 6).trans rfl, (blk_cell BK265.out 7).trans rfl, (blk_cell BK265.out 8).trans rfl, (blk_cell BK265.out 9).trans rfl⟩ (fun hHeld => ?_); refine with_tabW script_Put.tab20 script_Put.bits20 (fun HT_ HW_ => ?_)
          generalize wr.drew = w38 at HO_5 BK265 BK267 HB hHeld ⊢
          refine pure_ (i := 0) (N := some 85) (v := ?_) (a' := ?_) #[true, false, false, false, false, false, false, false, false, false, false] rfl rfl (any_of HT_.out (by kernel_rfl)) (fun _ _ _ h => h) (Or.inl ⟨by rfl, ?_⟩) ?_ ?_
          rotate_left
          ·intro w'
           go_simp
           with_reducible rfl
          rotate_left
          ·simp only [Act.put, List.setIfInBounds_toArray, List.set_cons_zero, List.set_cons_succ, i64_w, i32_w]
           rfl
          refine pure_ (i := 1) (N := some 86) (v := ?_) (a' := ?_) #[true, true, false, false, false, false, false, false, false, false, false] rfl rfl (any_of HT_.out (by kernel_rfl)) (fun _ _ _ h => h) (Or.inl ⟨by rfl, ?_⟩) ?_ ?_
          rotate_left
          ·intro w'
           go_simp
           with_reducible rfl
          rotate_left
          ·simp only [Act.put, List.setIfInBounds_toArray, List.set_cons_zero, List.set_cons_succ, i64_w, i32_w]
           rfl
          refine pure_ (i := 7) (N := some 92) (v := ?_) (a' := ?_) #[true, true, false, false, false, false, false, true, false, false, false] rfl rfl (any_of HT_.out (by kernel_rfl)) (fun _ _ _ h => h) (Or.inl ⟨by rfl, ?_⟩) ?_ ?_
          rotate_left
          ·intro w'
           go_simp
           with_reducible rfl
          rotate_left
          ·simp only [Act.put, List.setIfInBounds_toArray, List.set_cons_zero, List.set_cons_succ, i64_w, i32_w]
           rfl
          refine take_ (i := 2) (N := some 87) (v := ?_) (a' := ?_) #[true, true, true, false, false, false, false, true, false, false, false] rfl rfl (take_ofW HT_.out HW_.out (by kernel_rfl)) (fun _ _ _ h => h) (Or.inl ⟨by rfl, ?_⟩) hHeld ?_ ?_
          rotate_left
          ·rintro w' ⟨s0, s1, s2, s3, s4, s5, s6, s7, s8, s9⟩
           go_simp
           with_reducible rfl
          rotate_left
          ·simp only [Act.put, List.setIfInBounds_toArray, List.set_cons_zero, List.set_cons_succ, i64_w, i32_w]
           rfl
          refine pure_ (i := 3) (N := some 88) (v := ?_) (a' := ?_) #[true, true, true, true, false, false, false, true, false, false, false] rfl rfl (any_of HT_.out (by kernel_rfl)) (fun _ _ _ h => h) (Or.inl ⟨by rfl, ?_⟩) ?_ ?_
          rotate_left
          ·intro w'
           go_simp
           with_reducible rfl
          rotate_left
          ·simp only [Act.put, List.setIfInBounds_toArray, List.set_cons_zero, List.set_cons_succ, i64_w, i32_w]
           rfl
          refine pure_ (i := 4) (N := some 89) (v := ?_) (a' := ?_) #[true, true, true, true, true, false, false, true, false, false, false] rfl rfl (any_of HT_.out (by kernel_rfl)) (fun _ _ _ h => h) (Or.inl ⟨by rfl, ?_⟩) ?_ ?_
          rotate_left
          ·intro w'
           go_simp
           with_reducible rfl
          rotate_left
          ·simp only [Act.put, List.setIfInBounds_toArray, List.set_cons_zero, List.set_cons_succ, i64_w, i32_w]
           rfl
          refine take_ (i := 8) (N := some 93) (v := ?_) (a' := ?_) #[true, true, true, true, true, false, false, true, true, false, false] rfl rfl (take_ofW HT_.out HW_.out (by kernel_rfl)) (fun _ _ _ h => h) (Or.inl ⟨by rfl, ?_⟩) hHeld ?_ ?_
          rotate_left
          ·rintro w' ⟨s0, s1, s2, s3, s4, s5, s6, s7, s8, s9⟩
           go_simp
           with_reducible rfl
          rotate_left
          ·simp only [Act.put, List.setIfInBounds_toArray, List.set_cons_zero, List.set_cons_succ, i64_w, i32_w]
           rfl
          refine one_ (i := 5) (N := some 90) #[true, true, true, true, true, true, false, true, true, false, false] rfl rfl (one_of HT_.out (by kernel_rfl)) (by decide) (fun K hK => ?_)
          refine value_ (w1 := ?_) (v := ?_) (by rfl) rfl ?_ ?_
          rotate_left 2
          ·go_simp
           constructor
           ·rfl
           ·rfl
          refine hK.out _ _ ⟨(blk_cell (blk_alloc BK265.out _) 0).trans rfl, (blk_cell (blk_alloc BK265.out _) 1).trans rfl, (blk_cell (blk_alloc BK265.out _) 2).trans rfl, (blk_cell (blk_alloc BK265.out _) 3).trans rfl, (blk_cell (blk_alloc BK265.out _) 4).trans rfl, (blk_cell (blk_alloc BK265.out _) 5).trans rfl, (blk_cell (blk_alloc BK265.out _) 6).trans rfl, (blk_cell (blk_alloc BK265.out _) 7).trans rfl, (blk_cell (blk_alloc BK265.out _) 8).trans rfl, (blk_cell (blk_alloc BK265.out _) 9).trans rfl⟩ (fun hHeld => ?_)
          clear hK K
          refine norm_ (a' := ?_) ?_ ?_
          rotate_left
          ·show Act.put _ (some 90) _ = _
           simp only [Act.put, List.setIfInBounds_toArray, List.set_cons_zero, List.set_cons_succ, i64_w, i32_w]
           rfl
          refine one_ (i := 6) (N := some 91) #[true, true, true, true, true, true, true, true, true, false, false] rfl rfl (one_of HT_.out (by kernel_rfl)) (by decide) (fun K hK => ?_)
          refine Kd.R_append_step (Kd.int .u8) (w0 := w) w.heap.size (by rfl) (.tmp 85) (.tmp 90) 22 5 (.int .u8 0) 1 rfl Try.underlying22 info5 rfl (by decide) (by omega) u5 x5_2 (((l0_7.length : Int)) % 256) [.int .u8 (((l0_7.length : Int)) % 256)] (fun _ => True) (fun _ => False) rfl rfl ?aP (fun _ hk => hk.elim) ?aF ?aO ?aB ?aS ?aL ?_
          (case aP => exact rfl)
          (case aB => exact (by repeat (first | (with_reducible first | exact HB.out | apply below_alloc | apply pw_below_drewN | apply below_drew1 | refine below_set ?_ GE265.out | refine below_set ?_ GE267.out) | exact HB.out)))
          (case aF => exact (fun _ _ => trivial))
          (case aO => exact (by (with_reducible repeat (first | apply Kd.R_alloc | apply Kd.R_drewN | apply Kd.R_drew)); exact HO_5.out))
          (case aS => exact (below_size (by repeat (first | (with_reducible first | exact HB.out | apply below_alloc | apply pw_below_drewN | apply below_drew1 | refine below_set ?_ GE265.out | refine below_set ?_ GE267.out) | exact HB.out))))
          (case aL => have := LMc36.out; omega)
          intro v290 w39 ho hb hg hat
          rw [← Ny289.out] at ho
          have n0_ := Aside0.mk (blk_grown (g := gb265) (o := .cells #[.int .i64 a0_0, .int .i64 a0_1, .int .i64 a0_2, .int .i64 a0_3, .int .i64 a0_4, .int .i64 a0_5, .slice A0_6 l0_6.length c0_6, .slice A0_7 l0_7.length c0_7, .slice A0_8 l0_8.length c0_8, .slice A0_9 l0_9.length c0_9] 30 (0, 0)) (by (with_reducible repeat (first | refine blk_drewN ?_ _ | refine blk_drew ?_ | refine blk_alloc ?_ _)); exact BK265.out) hg (Kd.R_ne HO_5.out BK265.out (by decide)))
          have n1_ := Aside0.mk (blk_grown (g := gb267) (o := .cells #[.int .i64 a0_0, .int .i64 a0_1, .int .i64 a0_2, .int .i64 a0_3, .int .i64 a0_4, .int .i64 a0_5] 25 (0, 0)) (by (with_reducible repeat (first | refine blk_drewN ?_ _ | refine blk_drew ?_ | refine blk_alloc ?_ _)); exact BK267.out) hg (Kd.R_ne HO_5.out BK267.out (by decide)))
          have n2_ := Aside0.mk (hb)
          have n3_ := Aside0.mk (ho)
          clear BK265
          clear BK267
          clear HB
          clear HO_5
          have BK265 := n0_
          have BK267 := n1_
          have HB := n2_
          have HO291 := n3_
          clear n0_ n1_ n2_ n3_
          clear ho hb hg hat
          refine hK.out _ _ ⟨(blk_cell BK265.out 0).trans rfl, (blk_cell BK265.out 1).trans rfl, (blk_cell BK265.out 2).trans rfl, (blk_cell BK265.out 3).trans rfl, (blk_cell BK265.out 4).trans rfl, (blk_cell BK265.out 5).trans rfl, (blk_cell BK265.out 6).trans rfl, (blk_cell BK265.out 7).trans rfl, (blk_cell BK265.out 8).trans rfl, (blk_cell BK265.out 9).trans rfl⟩ (fun hHeld => ?_)
          clear hK K
          refine norm_ (a' := ?_) ?_ ?_
          rotate_left
          ·show Act.put _ (some 91) _ = _
           simp only [Act.put, List.setIfInBounds_toArray, List.set_cons_zero, List.set_cons_succ, i64_w, i32_w]
           rfl
          refine one_ (i := 9) (N := some 94) #[true, true, true, true, true, true, true, true, true, true, false] rfl rfl (one_of HT_.out (by kernel_rfl)) (by decide) (fun K hK => ?_)
          refine Kd.R_append_rows_step (Kd.int .u8) (w0 := w) w.heap.size (by rfl) (.tmp 91) (.tmp 93) 22 5 (.int .u8 0) 1 rfl Try.underlying22 info5 rfl (by decide) (by omega) v290 y289 l0_7 _ _ _ (fun _ => True) (fun _ => False) rfl rfl ?aO ?aR (fun _ _ h => h) (fun _ h => h.elim) ?aF ?aB ?aS ?aL ?_
          (case aR => repeat (first | exact (Kd.C_below HR0_7.out HB.out) | (with_reducible refine Kd.C_alloc ?_ _) | (with_reducible refine Kd.C_drewN ?_ _) | (with_reducible refine Kd.C_drew ?_)))
          (case aB => exact (by repeat (first | (with_reducible first | exact HB.out | apply below_alloc | apply pw_below_drewN | apply below_drew1 | refine below_set ?_ GE265.out | refine below_set ?_ GE267.out) | exact HB.out)))
          (case aF => exact (fun _ _ => trivial))
          (case aO => exact (by (with_reducible repeat (first | apply Kd.R_alloc | apply Kd.R_drewN | apply Kd.R_drew)); exact HO291.out))
          (case aS => exact (below_size (by repeat (first | (with_reducible first | exact HB.out | apply below_alloc | apply pw_below_drewN | apply below_drew1 | refine below_set ?_ GE265.out | refine below_set ?_ GE267.out) | exact HB.out))))
          (case aL => have := LMc37.out; omega)
          intro v293 w40 ho hb hg hat
          rw [← Ny292.out] at ho
          have n0_ := Aside0.mk (blk_grown (g := gb265) (o := .cells #[.int .i64 a0_0, .int .i64 a0_1, .int .i64 a0_2, .int .i64 a0_3, .int .i64 a0_4, .int .i64 a0_5, .slice A0_6 l0_6.length c0_6, .slice A0_7 l0_7.length c0_7, .slice A0_8 l0_8.length c0_8, .slice A0_9 l0_9.length c0_9] 30 (0, 0)) (by (with_reducible repeat (first | refine blk_drewN ?_ _ | refine blk_drew ?_ | refine blk_alloc ?_ _)); exact BK265.out) hg (Kd.R_ne HO291.out BK265.out (by decide)))
          have n1_ := Aside0.mk (blk_grown (g := gb267) (o := .cells #[.int .i64 a0_0, .int .i64 a0_1, .int .i64 a0_2, .int .i64 a0_3, .int .i64 a0_4, .int .i64 a0_5] 25 (0, 0)) (by (with_reducible repeat (first | refine blk_drewN ?_ _ | refine blk_drew ?_ | refine blk_alloc ?_ _)); exact BK267.out) hg (Kd.R_ne HO291.out BK267.out (by decide)))
          have n2_ := Aside0.mk (hb)
          have n3_ := Aside0.mk (ho)
          clear BK265
          clear BK267
          clear HB
          clear HO291
          have BK265 := n0_
          have BK267 := n1_
          have HB := n2_
          have HO294 := n3_
          clear n0_ n1_ n2_ n3_
          clear ho hb hg hat
          refine hK.out _ _ ⟨(blk_cell BK265.out 0).trans rfl, (blk_cell BK265.out 1).trans rfl, (blk_cell BK265.out 2).trans rfl, (blk_cell BK265.out 3).trans rfl, (blk_cell BK265.out 4).trans rfl, (blk_cell BK265.out 5).trans rfl, (blk_cell BK265.out 6).trans rfl, (blk_cell BK265.out 7).trans rfl, (blk_cell BK265.out 8).trans rfl, (blk_cell BK265.out 9).trans rfl⟩ (fun hHeld => ?_)
          clear hK K
          refine norm_ (a' := ?_) ?_ ?_
          rotate_left
          ·show Act.put _ (some 94) _ = _
           simp only [Act.put, List.setIfInBounds_toArray, List.set_cons_zero, List.set_cons_succ, i64_w, i32_w]
           rfl
          refine pure_ (i := 10) (N := some 5) (v := ?_) (a' := ?_) #[true, true, true, true, true, true, true, true, true, true, true] rfl rfl (any_of HT_.out (by kernel_rfl)) (fun _ _ _ h => h) (Or.inl ⟨by rfl, ?_⟩) ?_ ?_
          rotate_left
          ·intro w'
           go_simp
           with_reducible rfl
          rotate_left
          ·simp only [Act.put, List.setIfInBounds_toArray, List.set_cons_zero, List.set_cons_succ, i64_w, i32_w]
           rfl
          refine done_ (done_of HT_.out (by kernel_rfl)) ?_
          have hnb41 := NB265_267.out
          have hnc41 := NB267_265.out
          have hcz42_0 : w40.cell? ⟨gb265, 0, none⟩ = some (.int .i64 a0_0) := (blk_cell BK265.out 0).trans rfl
          have hcz42_1 : w40.cell? ⟨gb265, 1, none⟩ = some (.int .i64 a0_1) := (blk_cell BK265.out 1).trans rfl
          have hcz42_2 : w40.cell? ⟨gb265, 2, none⟩ = some (.int .i64 a0_2) := (blk_cell BK265.out 2).trans rfl
          have hcz42_3 : w40.cell? ⟨gb265, 3, none⟩ = some (.int .i64 a0_3) := (blk_cell BK265.out 3).trans rfl
          have hcz42_4 : w40.cell? ⟨gb265, 4, none⟩ = some (.int .i64 a0_4) := (blk_cell BK265.out 4).trans rfl
          have hcz42_5 : w40.cell? ⟨gb265, 5, none⟩ = some (.int .i64 a0_5) := (blk_cell BK265.out 5).trans rfl
          have hcz42_6 : w40.cell? ⟨gb265, 6, none⟩ = some (.slice A0_6 l0_6.length c0_6) := (blk_cell BK265.out 6).trans rfl
          have hcz42_7 : w40.cell? ⟨gb265, 7, none⟩ = some (.slice A0_7 l0_7.length c0_7) := (blk_cell BK265.out 7).trans rfl
          have hcz42_8 : w40.cell? ⟨gb265, 8, none⟩ = some (.slice A0_8 l0_8.length c0_8) := (blk_cell BK265.out 8).trans rfl
          have hcz42_9 : w40.cell? ⟨gb265, 9, none⟩ = some (.slice A0_9 l0_9.length c0_9) := (blk_cell BK265.out 9).trans rfl
          have hfz42_0 := blk_frozen BK265.out 0
          have hfz42_1 := blk_frozen BK265.out 1
          have hfz42_2 := blk_frozen BK265.out 2
          have hfz42_3 := blk_frozen BK265.out 3
          have hfz42_4 := blk_frozen BK265.out 4
          have hfz42_5 := blk_frozen BK265.out 5
          have hfz42_6 := blk_frozen BK265.out 6
          have hfz42_7 := blk_frozen BK265.out 7
          have hfz42_8 := blk_frozen BK265.out 8
          have hfz42_9 := blk_frozen BK265.out 9
          try go_wp2
          go_loopg [5, 98] k2 (fun kq v5 v98 w' => ∃ (x5_3 : List Int) (x98_3 : Int), v98 = .int .i64 x98_3 ∧ Aside0 (script_Put.l3 kq x5_3 l0_9 (l0_9.length : Int) x98_3 = some (r1, r2)) ∧ Aside0 (kq ≤ k2) ∧ Aside0 (Kd.R (Kd.int .u8) 5 w' w.heap.size (fun _ => True) v5 x5_3) ∧ Aside0 (w'.heap[gb265]? = some (.cells #[.int .i64 a0_0, .int .i64 a0_1, .int .i64 a0_2, .int .i64 a0_3, .int .i64 a0_4, .int .i64 a0_5, (.slice A0_6 l0_6.length c0_6), (.slice A0_7 l0_7.length c0_7), (.slice A0_8 l0_8.length c0_8), (.slice A0_9 l0_9.length c0_9)] 30 (0, 0))) ∧ Aside0 (w'.heap[gb267]? = some (.cells #[.int .i64 a0_0, .int .i64 a0_1, .int .i64 a0_2, .int .i64 a0_3, .int .i64 a0_4, .int .i64 a0_5] 25 (0, 0))) ∧ Aside0 (Below w.heap.size w w'))
          case atStart => exact ⟨(y292), (0), (by first | rfl | (simp; done) | (simp [*]; done)), H', ⟨Nat.le_refl _⟩, ⟨by (with_reducible repeat (first | apply Kd.R_alloc | apply Kd.R_drewN | apply Kd.R_drew)); exact HO294.out⟩, ⟨by (with_reducible repeat (first | refine blk_drewN ?_ _ | refine blk_drew ?_ | refine blk_alloc ?_ _)); exact BK265.out⟩, ⟨by (with_reducible repeat (first | refine blk_drewN ?_ _ | refine blk_drew ?_ | refine blk_alloc ?_ _)); exact BK267.out⟩, ⟨by repeat (first | (with_reducible first | exact HB.out | apply below_alloc | apply pw_below_drewN | apply below_drew1 | refine below_set ?_ GE265.out | refine below_set ?_ GE267.out) | exact HB.out)⟩⟩
          case round =>
           clear H'
           try clear c1
           try clear c2
           try clear p2
           try clear q2
           try clear hx2
           try clear c3
           try clear c4
           try clear p6
           try clear c9
           try clear c14
           try clear c14b0
           try clear c15
           try clear c15b0
           try clear c16
           try clear c16b0
           try clear c17
           try clear c19
           try clear c21
           try clear c21b0
           try clear c22
           try clear c22b0
           try clear c23
           try clear c23b0
           try clear c24
           try clear c26
           try clear c26b0
           try clear c27
           try clear c27b0
           try clear p27
           try clear q27
           try clear hx27
           try clear c28
           try clear c28b0
           try clear c29
           try clear c31
           try clear c33
           try clear c36
           try clear c37
           try clear c41
           try clear hcz10_0
           try clear hcz10_1
           try clear hcz10_2
           try clear hcz10_3
           try clear hcz10_4
           try clear hcz10_5
           try clear hcz13_0
           try clear hcz13_1
           try clear hcz13_2
           try clear hcz13_3
           try clear hcz13_4
           try clear hcz13_5
           try clear hcz13_6
           try clear hcz13_7
           try clear hcz13_8
           try clear hcz13_9
           try clear hcz20_0
           try clear hcz20_1
           try clear hcz20_2
           try clear hcz20_3
           try clear hcz20_4
           try clear hcz20_5
           try clear hcz20_6
           try clear hcz20_7
           try clear hcz20_8
           try clear hcz20_9
           try clear hcz42_0
           try clear hcz42_1
           try clear hcz42_2
           try clear hcz42_3
           try clear hcz42_4
           try clear hcz42_5
           try clear hcz42_6
           try clear hcz42_7
           try clear hcz42_8
           try clear hcz42_9
           try clear hcz5_0
           try clear hcz5_1
           try clear hcz5_2
           try clear hcz5_3
           try clear hcz5_4
           try clear hcz5_5
           try clear hcz5_6
           try clear hcz5_7
           try clear hcz5_8
           try clear hcz5_9
           try clear hcz7_0
           try clear hcz7_1
           try clear hcz7_2
           try clear hcz7_3
           try clear hcz7_4
           try clear hcz7_5
           try clear hcz7_6
           try clear hcz7_7
           try clear hcz7_8
           try clear hcz7_9
           try clear hfz10_0
           try clear hfz10_1
           try clear hfz10_2
           try clear hfz10_3
           try clear hfz10_4
           try clear hfz10_5
           try clear hfz13_0
           try clear hfz13_1
           try clear hfz13_2
           try clear hfz13_3
           try clear hfz13_4
           try clear hfz13_5
           try clear hfz13_6
           try clear hfz13_7
           try clear hfz13_8
           try clear hfz13_9
           try clear hfz20_0
           try clear hfz20_1
           try clear hfz20_2
           try clear hfz20_3
           try clear hfz20_4
           try clear hfz20_5
           try clear hfz20_6
           try clear hfz20_7
           try clear hfz20_8
           try clear hfz20_9
           try clear hfz42_0
           try clear hfz42_1
           try clear hfz42_2
           try clear hfz42_3
           try clear hfz42_4
           try clear hfz42_5
           try clear hfz42_6
           try clear hfz42_7
           try clear hfz42_8
           try clear hfz42_9
           try clear hfz5_0
           try clear hfz5_1
           try clear hfz5_2
           try clear hfz5_3
           try clear hfz5_4
           try clear hfz5_5
           try clear hfz5_6
           try clear hfz5_7
           try clear hfz5_8
           try clear hfz5_9
           try clear hfz7_0
           try clear hfz7_1
           try clear hfz7_2
           try clear hfz7_3
           try clear hfz7_4
           try clear hfz7_5
           try clear hfz7_6
           try clear hfz7_7
           try clear hfz7_8
           try clear hfz7_9
           try clear hx271_0
           try clear hx275_0
           try clear hx279_0
           try clear p2
           try clear p271
           try clear p275
           try clear p279
           try clear p6
           try clear q2
           try clear q271
           try clear q275
           try clear q279
           obtain ⟨x5_3, x98_3, rfl, HA, HK3, HO_5, BK265, BK267, HB⟩ := hrel
           cases gk with
           | zero => exact absurd HA.out (by simp [script_Put.l3])
           | succ k3 =>
            have H := HA.out
            clear HA
            simp only [script_Put.l3] at H
            by_cases c43 : x98_3 < (l0_9.length : Int)
            ·rw [if_pos c43] at H
             have c43b0 : decide (x98_3 < (l0_9.length : Int)) = true := decide_eq_true c43
             clear c43
             by_cases c44 : 0 ≤ x98_3
             ·rw [if_pos c44] at H
              have c44b0 : decide (0 ≤ x98_3) = true := decide_eq_true c44
              clear c44
              by_cases c45 : x98_3 < (l0_9.length : Int)
              ·rw [if_pos c45] at H
               have c45b0 : decide (x98_3 < (l0_9.length : Int)) = true := decide_eq_true c45
               clear c45
               by_cases c46 : x5_3.length < 140737488355328
               ·rw [if_pos c46] at H
                have LMc46 := Aside0.mk c46
                clear c46
                obtain ⟨y296, hy296⟩ : ∃ y_ : List Int, y_ = (x5_3 ++ [(rd l0_9 x98_3) % 256]) := ⟨_, rfl⟩
                replace H : (script_Put.l3 k3 y296 l0_9 (l0_9.length : Int) (wrap64 (x98_3 + 1))) = some (r1, r2) := by first | (rw [hy296]; with_reducible exact H) | (have H2_ := (Option.bind_some _ _).symm.trans H; rw [hy296]; with_reducible exact H2_) | (have H2_ := (Option.bind_some _ _).symm.trans H; with_reducible exact H2_) | with_reducible exact H | (rw [hy296]; exact H) | exact H
                have Ny296 := Aside0.mk hy296
                clear hy296
                have H' := Aside0.mk H
                clear H
                have p295 : 0 ≤ (x98_3 : Int) := of_decide_eq_true (by first | (with_reducible assumption) | assumption)
                have q295 : x98_3 < (l0_9.length : Int) := of_decide_eq_true (by first | (with_reducible assumption) | assumption)
                obtain ⟨ad295, e295, hx295_0⟩ := Kd.at_int HR0_9.out x98_3 p295 q295
                cases e295
                replace hx295_0 := (HB.out.cell (World.block_lt_of_cell? w _ hx295_0)).trans hx295_0
                replace p295 := eq_true p295
                replace q295 := eq_true q295
                go_wp2_with (first | ((with_reducible refine gate_builtin (b := .append) (xs := #[.tmp 102, .tmp 105]) rfl ?_); at_builtin; refine Kd.R_append (Kd.int .u8) (w0 := w) w.heap.size rfl (.tmp 102) (.tmp 105) 22 5 (.int .u8 0) 1 rfl Try.underlying22 info5 rfl (by decide) (by omega) u5 x5_3 ((rd l0_9 x98_3) % 256) [.int .u8 ((rd l0_9 x98_3) % 256)] (fun _ => True) (fun _ => False) rfl rfl ?aP (fun _ hk => hk.elim) ?aF ?aO ?aB ?aS ?aL ?_; (case aP => exact rfl); (case aB => exact (by repeat (first | (with_reducible first | exact HB.out | apply below_alloc | apply pw_below_drewN | apply below_drew1 | refine below_set ?_ GE265.out | refine below_set ?_ GE267.out) | exact HB.out))); (case aF => exact (fun _ _ => trivial)); (case aO => exact (by (with_reducible repeat (first | apply Kd.R_alloc | apply Kd.R_drewN | apply Kd.R_drew)); exact HO_5.out)); (case aS => exact (below_size (by repeat (first | (with_reducible first | exact HB.out | apply below_alloc | apply pw_below_drewN | apply below_drew1 | refine below_set ?_ GE265.out | refine below_set ?_ GE267.out) | exact HB.out)))); (case aL => have := LMc46.out; omega); intro v297 w47 ho hb hg hat; rw [← Ny296.out] at ho; have n0_ := Aside0.mk (blk_grown (g := gb265) (o := .cells #[.int .i64 a0_0, .int .i64 a0_1, .int .i64 a0_2, .int .i64 a0_3, .int .i64 a0_4, .int .i64 a0_5, .slice A0_6 l0_6.length c0_6, .slice A0_7 l0_7.length c0_7, .slice A0_8 l0_8.length c0_8, .slice (some ad295) l0_9.length c0_9] 30 (0, 0)) (by (with_reducible repeat (first | refine blk_drewN ?_ _ | refine blk_drew ?_ | refine blk_alloc ?_ _)); exact BK265.out) hg (Kd.R_ne HO_5.out BK265.out (by decide))); have n1_ := Aside0.mk (blk_grown (g := gb267) (o := .cells #[.int .i64 a0_0, .int .i64 a0_1, .int .i64 a0_2, .int .i64 a0_3, .int .i64 a0_4, .int .i64 a0_5] 25 (0, 0)) (by (with_reducible repeat (first | refine blk_drewN ?_ _ | refine blk_drew ?_ | refine blk_alloc ?_ _)); exact BK267.out) hg (Kd.R_ne HO_5.out BK267.out (by decide))); have n2_ := Aside0.mk (hb); have n3_ := Aside0.mk (ho); clear BK265; clear BK267; clear HB; clear HO_5; have BK265 := n0_; have BK267 := n1_; have HB := n2_; have HO298 := n3_; clear n0_ n1_ n2_ n3_; clear ho hb hg hat))
                go_roundg k3
                case measure => have := HK1.out; have := HK2.out; have := HK3.out; omega
                case rel => exact ⟨(y296), (wrap64 (x98_3 + 1)), (by first | rfl | (simp; done) | (simp [*]; done)), H', ⟨by have := HK1.out; have := HK2.out; have := HK3.out; omega⟩, ⟨by (with_reducible repeat (first | apply Kd.R_alloc | apply Kd.R_drewN | apply Kd.R_drew)); exact HO298.out⟩, ⟨by (with_reducible repeat (first | refine blk_drewN ?_ _ | refine blk_drew ?_ | refine blk_alloc ?_ _)); exact BK265.out⟩, ⟨by (with_reducible repeat (first | refine blk_drewN ?_ _ | refine blk_drew ?_ | refine blk_alloc ?_ _)); exact BK267.out⟩, ⟨by repeat (first | (with_reducible first | exact HB.out | apply below_alloc | apply pw_below_drewN | apply below_drew1 | refine below_set ?_ GE265.out | refine below_set ?_ GE267.out) | exact HB.out)⟩⟩
               ·rw [if_neg c46] at H
                exact absurd H (by simp)
              ·rw [if_neg c45] at H
               exact absurd H (by simp)
             ·rw [if_neg c44] at H
              exact absurd H (by simp)
            ·rw [if_neg c43] at H
             have c43b0 : decide (x98_3 < (l0_9.length : Int)) = false := decide_eq_false c43
             clear c43
             simp only [Option.some.injEq, Prod.mk.injEq] at H
             obtain ⟨rfl, rfl⟩ := H
             go_wp2
             go_ret2
             exact ⟨_, by first | rfl | (simp [errW_none, errW_some] <;> rfl) | (simp [*, errW_none, errW_some] <;> rfl), by (with_reducible repeat (first | apply Kd.R_alloc | apply Kd.R_drewN | apply Kd.R_drew)); exact HO_5.out, by repeat (first | (with_reducible first | exact HB.out | apply below_alloc | apply pw_below_drewN | apply below_drew1 | refine below_set ?_ GE265.out | refine below_set ?_ GE267.out) | exact HB.out)⟩
         ·rw [if_neg c37] at H
          exact absurd H (by simp)
        ·rw [if_neg c36] at H
         exact absurd H (by simp)
 ·replace c3 := Bool.eq_false_iff.mpr c3
  subst c3
  have H1 : (some (([] : List Int), 1)) = some (r1, r2) := by rw [if_neg (show ¬ (false = true) by decide)] at H; exact H
  clear H
  have H := H1
  clear H1
  simp only [Option.some.injEq, Prod.mk.injEq] at H
  obtain ⟨rfl, rfl⟩ := H
  go_enter Try.func15, Try.ntmps15
  go_wp2_with (first | ((with_reducible refine gate_dst (N := 1) rfl ?_); refine box_event ?hg (N := 1) ?hd (cs := #[.int .i64 a0_0, .int .i64 a0_1, .int .i64 a0_2, .int .i64 a0_3, .int .i64 a0_4, .int .i64 a0_5, .slice A0_6 l0_6.length c0_6, .slice A0_7 l0_7.length c0_7, .slice A0_8 l0_8.length c0_8, .slice A0_9 l0_9.length c0_9]) (t := 30) ?hr ?_; (case hd => rfl); (case hg => rfl); (case hr => first | (go_simp; done) | (go_simp; rfl)); intro gb265 hg w48 hbox hb; have n0_ := Aside0.mk (below_step (by repeat (first | (with_reducible first | exact HB.out | apply below_alloc | apply pw_below_drewN | apply below_drew1) | exact HB.out)) hb); have n1_ := Aside0.mk (hbox); have n2_ := Aside0.mk ((by rw [hg]; exact (below_size (by repeat (first | (with_reducible first | exact HB.out | apply below_alloc | apply pw_below_drewN | apply below_drew1) | exact HB.out))) : w.heap.size ≤ gb265)); have n3_ := Aside0.mk ((by rw [hg]; exact (below_size (by repeat (first | (with_reducible first | exact HB.out | apply below_alloc | apply pw_below_drewN | apply below_drew1) | exact HB.out))) : w.heap.size ≤ gb265)); clear HB; have HB := n0_; have BK265 := n1_; have GW265 := n2_; have GE265 := n3_; clear n0_ n1_ n2_ n3_; clear hb hbox hg; have hcz49_0 : w48.cell? ⟨gb265, 0, none⟩ = some (.int .i64 a0_0) := (blk_cell BK265.out 0).trans rfl; have hcz49_1 : w48.cell? ⟨gb265, 1, none⟩ = some (.int .i64 a0_1) := (blk_cell BK265.out 1).trans rfl; have hcz49_2 : w48.cell? ⟨gb265, 2, none⟩ = some (.int .i64 a0_2) := (blk_cell BK265.out 2).trans rfl; have hcz49_3 : w48.cell? ⟨gb265, 3, none⟩ = some (.int .i64 a0_3) := (blk_cell BK265.out 3).trans rfl; have hcz49_4 : w48.cell? ⟨gb265, 4, none⟩ = some (.int .i64 a0_4) := (blk_cell BK265.out 4).trans rfl; have hcz49_5 : w48.cell? ⟨gb265, 5, none⟩ = some (.int .i64 a0_5) := (blk_cell BK265.out 5).trans rfl; have hcz49_6 : w48.cell? ⟨gb265, 6, none⟩ = some (.slice A0_6 l0_6.length c0_6) := (blk_cell BK265.out 6).trans rfl; have hcz49_7 : w48.cell? ⟨gb265, 7, none⟩ = some (.slice A0_7 l0_7.length c0_7) := (blk_cell BK265.out 7).trans rfl; have hcz49_8 : w48.cell? ⟨gb265, 8, none⟩ = some (.slice A0_8 l0_8.length c0_8) := (blk_cell BK265.out 8).trans rfl; have hcz49_9 : w48.cell? ⟨gb265, 9, none⟩ = some (.slice A0_9 l0_9.length c0_9) := (blk_cell BK265.out 9).trans rfl; have hfz49_0 := blk_frozen BK265.out 0; have hfz49_1 := blk_frozen BK265.out 1; have hfz49_2 := blk_frozen BK265.out 2; have hfz49_3 := blk_frozen BK265.out 3; have hfz49_4 := blk_frozen BK265.out 4; have hfz49_5 := blk_frozen BK265.out 5; have hfz49_6 := blk_frozen BK265.out 6; have hfz49_7 := blk_frozen BK265.out 7; have hfz49_8 := blk_frozen BK265.out 8; have hfz49_9 := blk_frozen BK265.out 9) | ((with_reducible refine gate_callee (f := 17) rfl ?_); refine goesL_ (some 15) rfl rfl Try.func17 (by kernel_rfl) rfl #[.agg #[.int .i64 a0_0, .int .i64 a0_1, .int .i64 a0_2, .int .i64 a0_3, .int .i64 a0_4, .int .i64 a0_5, .slice A0_6 l0_6.length c0_6, .slice A0_7 l0_7.length c0_7, .slice A0_8 l0_8.length c0_8, .slice A0_9 l0_9.length c0_9]] rfl (by (try simp only [List.map_toArray, List.map_cons, List.map_nil]); first | done | rfl | (simp only [List.length_drop, List.length_take]; rfl)) ?_; (with_reducible refine (script_Ok.calls a0_0 a0_1 a0_2 a0_3 a0_4 a0_5 _ _ l0_6 _ _ l0_7 _ _ l0_8 _ _ l0_9 false _ ?side1 ?side2 ?side3 ?side4 ?side5 ?side6 ?side7 ?side8 A2.out).mono ?_); (case side1 => repeat (first | exact (Kd.C_below HR0_6.out HB.out) | (with_reducible refine Kd.C_alloc ?_ _) | (with_reducible refine Kd.C_drewN ?_ _) | (with_reducible refine Kd.C_drew ?_))); (case side2 => exact HC0_6.out); (case side3 => repeat (first | exact (Kd.C_below HR0_7.out HB.out) | (with_reducible refine Kd.C_alloc ?_ _) | (with_reducible refine Kd.C_drewN ?_ _) | (with_reducible refine Kd.C_drew ?_))); (case side4 => exact HC0_7.out); (case side5 => repeat (first | exact (Kd.C_below HR0_8.out HB.out) | (with_reducible refine Kd.C_alloc ?_ _) | (with_reducible refine Kd.C_drewN ?_ _) | (with_reducible refine Kd.C_drew ?_))); (case side6 => exact HC0_8.out); (case side7 => repeat (first | exact (Kd.C_below HR0_9.out HB.out) | (with_reducible refine Kd.C_alloc ?_ _) | (with_reducible refine Kd.C_drewN ?_ _) | (with_reducible refine Kd.C_drew ?_))); (case side8 => exact HC0_9.out); rintro e w50 ⟨rfl, hb⟩; refine ⟨_, rfl, ?_⟩; have n0_ := Aside0.mk (blk_below (g := gb265) (o := .cells #[.int .i64 a0_0, .int .i64 a0_1, .int .i64 a0_2, .int .i64 a0_3, .int .i64 a0_4, .int .i64 a0_5, .slice A0_6 l0_6.length c0_6, .slice A0_7 l0_7.length c0_7, .slice A0_8 l0_8.length c0_8, .slice A0_9 l0_9.length c0_9] 30 (0, 0)) (by (with_reducible repeat (first | refine blk_drewN ?_ _ | refine blk_drew ?_ | refine blk_alloc ?_ _)); exact BK265.out) hb); have n1_ := Aside0.mk (below_step (by repeat (first | (with_reducible first | exact HB.out | apply below_alloc | apply pw_below_drewN | apply below_drew1 | refine below_set ?_ GE265.out) | exact HB.out)) hb); clear BK265; clear HB; have BK265 := n0_; have HB := n1_; clear n0_ n1_; (try clear hb); (try clear hb2); (try clear hk); (try clear hi)))
  go_ret2
  exact ⟨_, by first | rfl | (simp [errW_none, errW_some] <;> rfl) | (simp [*, errW_none, errW_some] <;> rfl), by first | exact Kd.R_nil _ _ _ _ _ | exact Kd.N_nil _ _ _ _ _ | exact Kd.V_nil _ _ _ _ _ | exact Kd.Q_nil _ _ _ _ _ | exact Kd.S_nil _ _ _ _ _, by repeat (first | (with_reducible first | exact HB.out | apply below_alloc | apply pw_below_drewN | apply below_drew1 | refine below_set ?_ GE265.out) | exact HB.out)⟩
end Go.Proofs.Ythfkgnkojhocbaa.S
end
section
namespace Go.Proofs.Ythfkgnkojhocbaa.S
open Go.RowKit Go.Proofs.YthfkgnkojhocbaaW.PrintWords Go.Proofs.YthfkgnkojhocbaaW.PrintLast Go.Proofs.YthfkgnkojhocbaaW.PrintMore
attribute [local go_sem] max2_int min2_int max_two min_two max_three min_three max_four min_four
set_option linter.unusedVariables false
set_option linter.unusedSimpArgs false
def quarrellaw20_Of.f (a0_0 : Int) (a0_1 : Int) (a0_2 : Int) (a0_3 : Int) (a0_4 : Int) (a0_5 : Int) (l0_6 : List Int) (l0_7 : List Int) (l0_8 : List (List (List (S80)))) (l0_9 : List Int) : Option (Int × Int × Int × Int × Int × Int × List Int × List Int × (List (List (List (S80)))) × List Int) := some (a0_0, a0_1, a0_2, a0_3, a0_4, a0_5, l0_6, l0_7, l0_8, l0_9)
set_option maxHeartbeats 8000000 in
set_option maxRecDepth 100000 in
theorem quarrellaw20_Of.calls (a0_0 : Int) (a0_1 : Int) (a0_2 : Int) (a0_3 : Int) (a0_4 : Int) (a0_5 : Int) (P0_6_ : Nat → Prop) (A0_6 : Option Addr) (c0_6 : Nat) (l0_6 : List Int) (P0_7_ : Nat → Prop) (A0_7 : Option Addr) (c0_7 : Nat) (l0_7 : List Int) (P0_8_ : Nat → Prop) (A0_8 : Option Addr) (c0_8 : Nat) (l0_8 : List (List (List (S80)))) (P0_9_ : Nat → Prop) (A0_9 : Option Addr) (c0_9 : Nat) (l0_9 : List Int) (r1 : Int) (r2 : Int) (r3 : Int) (r4 : Int) (r5 : Int) (r6 : Int) (r7 : List Int) (r8 : List Int) (r9 : List (List (List (S80)))) (r10 : List Int) (w : World) (hs0_6 : Kd.V (Kd.int .i64) 2 w w.heap.size (fun k_ => P0_6_ k_) (.slice A0_6 l0_6.length c0_6) l0_6) (hs0_7 : Kd.V (Kd.int .u8) 5 w w.heap.size (fun k_ => P0_7_ k_) (.slice A0_7 l0_7.length c0_7) l0_7) (hs0_8 : Kd.V (Kd.slice 61 (Kd.slice 80 k80)) 60 w w.heap.size (fun k_ => P0_8_ k_) (.slice A0_8 l0_8.length c0_8) l0_8) (hs0_9 : Kd.V (Kd.int .i64) 3 w w.heap.size (fun k_ => P0_9_ k_) (.slice A0_9 l0_9.length c0_9) l0_9) (h : quarrellaw20_Of.f a0_0 a0_1 a0_2 a0_3 a0_4 a0_5 l0_6 l0_7 l0_8 l0_9 = some (r1, r2, r3, r4, r5, r6, r7, r8, r9, r10)) :
  Calls Try.prog 16 #[.agg #[.int .i64 a0_0, .int .i64 a0_1, .int .i64 a0_2, .int .i64 a0_3, .int .i64 a0_4, .int .i64 a0_5, .slice A0_6 l0_6.length c0_6, .slice A0_7 l0_7.length c0_7, .slice A0_8 l0_8.length c0_8, .slice A0_9 l0_9.length c0_9]] w fun e w' => ∃ v6_ v7_ v8_ v9_ : Value, e = .returned (.agg #[.int .i64 r1, .int .i64 r2, .int .i64 r3, .int .i64 r4, .int .i64 r5, .int .i64 r6, v6_, v7_, v8_, v9_]) ∧ Kd.V (Kd.int .i64) 2 w' w.heap.size (fun k_ => ((P0_6_ k_ ∨ P0_7_ k_ ∨ P0_8_ k_ ∨ P0_9_ k_) ∨ w.heap.size ≤ k_)) v6_ r7 ∧ Kd.V (Kd.int .u8) 5 w' w.heap.size (fun k_ => ((P0_6_ k_ ∨ P0_7_ k_ ∨ P0_8_ k_ ∨ P0_9_ k_) ∨ w.heap.size ≤ k_)) v7_ r8 ∧ Kd.V (Kd.slice 61 (Kd.slice 80 k80)) 60 w' w.heap.size (fun k_ => ((P0_6_ k_ ∨ P0_7_ k_ ∨ P0_8_ k_ ∨ P0_9_ k_) ∨ w.heap.size ≤ k_)) v8_ r9 ∧ Kd.V (Kd.int .i64) 3 w' w.heap.size (fun k_ => ((P0_6_ k_ ∨ P0_7_ k_ ∨ P0_8_ k_ ∨ P0_9_ k_) ∨ w.heap.size ≤ k_)) v9_ r10 ∧ Below w.heap.size w w' := by
 have hu34 := Try.underlying34
 have hu30 := Try.underlying30
 have hu25 := Try.underlying25
 have HO0_6 := Aside0.mk (show Kd.V (Kd.int .i64) 2 w w.heap.size (fun k_ => ((P0_6_ k_ ∨ P0_7_ k_ ∨ P0_8_ k_ ∨ P0_9_ k_) ∨ w.heap.size ≤ k_)) (.slice A0_6 l0_6.length c0_6) l0_6 from Kd.V_mono hs0_6 (fun k_ hk => .inl (.inl hk)))
 have HO0_7 := Aside0.mk (show Kd.V (Kd.int .u8) 5 w w.heap.size (fun k_ => ((P0_6_ k_ ∨ P0_7_ k_ ∨ P0_8_ k_ ∨ P0_9_ k_) ∨ w.heap.size ≤ k_)) (.slice A0_7 l0_7.length c0_7) l0_7 from Kd.V_mono hs0_7 (fun k_ hk => .inl (.inr (.inl hk))))
 have HO0_8 := Aside0.mk (show Kd.V (Kd.slice 61 (Kd.slice 80 k80)) 60 w w.heap.size (fun k_ => ((P0_6_ k_ ∨ P0_7_ k_ ∨ P0_8_ k_ ∨ P0_9_ k_) ∨ w.heap.size ≤ k_)) (.slice A0_8 l0_8.length c0_8) l0_8 from Kd.V_mono hs0_8 (fun k_ hk => .inl (.inr (.inr (.inl hk)))))
 have HO0_9 := Aside0.mk (show Kd.V (Kd.int .i64) 3 w w.heap.size (fun k_ => ((P0_6_ k_ ∨ P0_7_ k_ ∨ P0_8_ k_ ∨ P0_9_ k_) ∨ w.heap.size ≤ k_)) (.slice A0_9 l0_9.length c0_9) l0_9 from Kd.V_mono hs0_9 (fun k_ hk => .inl (.inr (.inr (.inr hk)))))
 have HB := Aside0.mk (Below.refl w.heap.size w)
 have H : (some (a0_0, a0_1, a0_2, a0_3, a0_4, a0_5, l0_6, l0_7, l0_8, l0_9)) = some (r1, r2, r3, r4, r5, r6, r7, r8, r9, r10) := h
 clear h
 simp only [Option.some.injEq, Prod.mk.injEq] at H
 obtain ⟨rfl, rfl, rfl, rfl, rfl, rfl, rfl, rfl, rfl, rfl⟩ := H
 go_enter Try.func16, Try.ntmps16
 go_wp2_with (first | ((with_reducible refine gate_dst (N := 1) rfl ?_); refine box_event ?hg (N := 1) ?hd (cs := #[.int .i64 a0_0, .int .i64 a0_1, .int .i64 a0_2, .int .i64 a0_3, .int .i64 a0_4, .int .i64 a0_5, .slice A0_6 l0_6.length c0_6, .slice A0_7 l0_7.length c0_7, .slice A0_8 l0_8.length c0_8, .slice A0_9 l0_9.length c0_9]) (t := 34) ?hr ?_; (case hd => rfl); (case hg => rfl); (case hr => first | (go_simp; done) | (go_simp; rfl)); intro gb299 hg w2 hbox hb; have n0_ := Aside0.mk (Kd.V_below (Kd.V_elderB (by (with_reducible repeat (first | apply Kd.V_alloc | apply Kd.V_drewN | apply Kd.V_drew)); exact HO0_6.out) gb299 (Nat.le_of_eq hg.symm)) hb); have n1_ := Aside0.mk (Kd.V_below (Kd.V_elderB (by (with_reducible repeat (first | apply Kd.V_alloc | apply Kd.V_drewN | apply Kd.V_drew)); exact HO0_7.out) gb299 (Nat.le_of_eq hg.symm)) hb); have n2_ := Aside0.mk (Kd.V_below (Kd.V_elderB (by (with_reducible repeat (first | apply Kd.V_alloc | apply Kd.V_drewN | apply Kd.V_drew)); exact HO0_8.out) gb299 (Nat.le_of_eq hg.symm)) hb); have n3_ := Aside0.mk (Kd.V_below (Kd.V_elderB (by (with_reducible repeat (first | apply Kd.V_alloc | apply Kd.V_drewN | apply Kd.V_drew)); exact HO0_9.out) gb299 (Nat.le_of_eq hg.symm)) hb); have n4_ := Aside0.mk (below_step (by repeat (first | (with_reducible first | exact HB.out | apply below_alloc | apply pw_below_drewN | apply below_drew1) | exact HB.out)) hb); have n5_ := Aside0.mk (hbox); have n6_ := Aside0.mk ((by rw [hg]; exact (below_size (by repeat (first | (with_reducible first | exact HB.out | apply below_alloc | apply pw_below_drewN | apply below_drew1) | exact HB.out))) : w.heap.size ≤ gb299)); have n7_ := Aside0.mk ((by rw [hg]; exact (below_size (by repeat (first | (with_reducible first | exact HB.out | apply below_alloc | apply pw_below_drewN | apply below_drew1) | exact HB.out))) : w.heap.size ≤ gb299)); clear HO0_6; clear HO0_7; clear HO0_8; clear HO0_9; clear HB; have HO0_6 := n0_; have HO0_7 := n1_; have HO0_8 := n2_; have HO0_9 := n3_; have HB := n4_; have BK299 := n5_; have GW299 := n6_; have GE299 := n7_; clear n0_ n1_ n2_ n3_ n4_ n5_ n6_ n7_; clear hb hbox hg) | ((with_reducible refine gate_dst (N := 2) rfl ?_); refine box_event ?hg (N := 2) ?hd (cs := #[.int .i64 0, .int .i64 0, .int .i64 0, .int .i64 0, .int .i64 0, .int .i64 0, .slice none 0 0, .slice none 0 0, .slice none 0 0, .slice none 0 0]) (t := 30) ?hr ?_; (case hd => rfl); (case hg => rfl); (case hr => first | (go_simp; done) | (go_simp; rfl)); intro gb300 hg w3 hbox hb; have n0_ := Aside0.mk (Kd.V_below (Kd.V_elderB (by (with_reducible repeat (first | apply Kd.V_alloc | apply Kd.V_drewN | apply Kd.V_drew)); exact HO0_6.out) gb300 (Nat.le_of_eq hg.symm)) hb); have n1_ := Aside0.mk (Kd.V_below (Kd.V_elderB (by (with_reducible repeat (first | apply Kd.V_alloc | apply Kd.V_drewN | apply Kd.V_drew)); exact HO0_7.out) gb300 (Nat.le_of_eq hg.symm)) hb); have n2_ := Aside0.mk (Kd.V_below (Kd.V_elderB (by (with_reducible repeat (first | apply Kd.V_alloc | apply Kd.V_drewN | apply Kd.V_drew)); exact HO0_8.out) gb300 (Nat.le_of_eq hg.symm)) hb); have n3_ := Aside0.mk (Kd.V_below (Kd.V_elderB (by (with_reducible repeat (first | apply Kd.V_alloc | apply Kd.V_drewN | apply Kd.V_drew)); exact HO0_9.out) gb300 (Nat.le_of_eq hg.symm)) hb); have n4_ := Aside0.mk (blk_below (g := gb299) (o := .cells #[.int .i64 a0_0, .int .i64 a0_1, .int .i64 a0_2, .int .i64 a0_3, .int .i64 a0_4, .int .i64 a0_5, .slice A0_6 l0_6.length c0_6, .slice A0_7 l0_7.length c0_7, .slice A0_8 l0_8.length c0_8, .slice A0_9 l0_9.length c0_9] 34 (0, 0)) (by (with_reducible repeat (first | refine blk_drewN ?_ _ | refine blk_drew ?_ | refine blk_alloc ?_ _)); exact BK299.out) hb); have n5_ := Aside0.mk (below_step (by repeat (first | (with_reducible first | exact HB.out | apply below_alloc | apply pw_below_drewN | apply below_drew1 | refine below_set ?_ GE299.out) | exact HB.out)) hb); have n6_ := Aside0.mk (hbox); have n7_ := Aside0.mk ((by rw [hg]; exact (below_size (by repeat (first | (with_reducible first | exact HB.out | apply below_alloc | apply pw_below_drewN | apply below_drew1 | refine below_set ?_ GE299.out) | exact HB.out))) : w.heap.size ≤ gb300)); have n8_ := Aside0.mk ((by rw [hg]; exact (below_size (by repeat (first | (with_reducible first | exact HB.out | apply below_alloc | apply pw_below_drewN | apply below_drew1 | refine below_set ?_ GE299.out) | exact HB.out))) : w.heap.size ≤ gb300)); have n9_ := Aside0.mk ((by rw [hg]; exact Nat.ne_of_lt (blk_lt (g := gb299) (o := .cells #[.int .i64 a0_0, .int .i64 a0_1, .int .i64 a0_2, .int .i64 a0_3, .int .i64 a0_4, .int .i64 a0_5, .slice A0_6 l0_6.length c0_6, .slice A0_7 l0_7.length c0_7, .slice A0_8 l0_8.length c0_8, .slice A0_9 l0_9.length c0_9] 34 (0, 0)) (by (with_reducible repeat (first | refine blk_drewN ?_ _ | refine blk_drew ?_ | refine blk_alloc ?_ _)); exact BK299.out)) : gb299 ≠ gb300)); have n10_ := Aside0.mk ((by rw [hg]; exact Nat.ne_of_gt (blk_lt (g := gb299) (o := .cells #[.int .i64 a0_0, .int .i64 a0_1, .int .i64 a0_2, .int .i64 a0_3, .int .i64 a0_4, .int .i64 a0_5, .slice A0_6 l0_6.length c0_6, .slice A0_7 l0_7.length c0_7, .slice A0_8 l0_8.length c0_8, .slice A0_9 l0_9.length c0_9] 34 (0, 0)) (by (with_reducible repeat (first | refine blk_drewN ?_ _ | refine blk_drew ?_ | refine blk_alloc ?_ _)); exact BK299.out)) : gb300 ≠ gb299)); clear HO0_6; clear HO0_7; clear HO0_8; clear HO0_9; clear BK299; clear HB; have HO0_6 := n0_; have HO0_7 := n1_; have HO0_8 := n2_; have HO0_9 := n3_; have BK299 := n4_; have HB := n5_; have BK300 := n6_; have GW300 := n7_; have GE300 := n8_; have NB299_300 := n9_; have NB300_299 := n10_; clear n0_ n1_ n2_ n3_ n4_ n5_ n6_ n7_ n8_ n9_ n10_; clear hb hbox hg; have hnb4 := NB299_300.out; have hnc4 := NB300_299.out; have hcz5_0 : w3.cell? ⟨gb299, 0, none⟩ = some (.int .i64 a0_0) := (blk_cell BK299.out 0).trans rfl; have hcz5_1 : w3.cell? ⟨gb299, 1, none⟩ = some (.int .i64 a0_1) := (blk_cell BK299.out 1).trans rfl; have hcz5_2 : w3.cell? ⟨gb299, 2, none⟩ = some (.int .i64 a0_2) := (blk_cell BK299.out 2).trans rfl; have hcz5_3 : w3.cell? ⟨gb299, 3, none⟩ = some (.int .i64 a0_3) := (blk_cell BK299.out 3).trans rfl; have hcz5_4 : w3.cell? ⟨gb299, 4, none⟩ = some (.int .i64 a0_4) := (blk_cell BK299.out 4).trans rfl; have hcz5_5 : w3.cell? ⟨gb299, 5, none⟩ = some (.int .i64 a0_5) := (blk_cell BK299.out 5).trans rfl; have hcz5_6 : w3.cell? ⟨gb299, 6, none⟩ = some (.slice A0_6 l0_6.length c0_6) := (blk_cell BK299.out 6).trans rfl; have hcz5_7 : w3.cell? ⟨gb299, 7, none⟩ = some (.slice A0_7 l0_7.length c0_7) := (blk_cell BK299.out 7).trans rfl; have hcz5_8 : w3.cell? ⟨gb299, 8, none⟩ = some (.slice A0_8 l0_8.length c0_8) := (blk_cell BK299.out 8).trans rfl; have hcz5_9 : w3.cell? ⟨gb299, 9, none⟩ = some (.slice A0_9 l0_9.length c0_9) := (blk_cell BK299.out 9).trans rfl; have hfz5_0 := blk_frozen BK299.out 0; have hfz5_1 := blk_frozen BK299.out 1; have hfz5_2 := blk_frozen BK299.out 2; have hfz5_3 := blk_frozen BK299.out 3; have hfz5_4 := blk_frozen BK299.out 4; have hfz5_5 := blk_frozen BK299.out 5; have hfz5_6 := blk_frozen BK299.out 6; have hfz5_7 := blk_frozen BK299.out 7; have hfz5_8 := blk_frozen BK299.out 8; have hfz5_9 := blk_frozen BK299.out 9; have hcz6_0 : w3.cell? ⟨gb300, 0, none⟩ = some (.int .i64 0) := (blk_cell BK300.out 0).trans rfl; have hcz6_1 : w3.cell? ⟨gb300, 1, none⟩ = some (.int .i64 0) := (blk_cell BK300.out 1).trans rfl; have hcz6_2 : w3.cell? ⟨gb300, 2, none⟩ = some (.int .i64 0) := (blk_cell BK300.out 2).trans rfl; have hcz6_3 : w3.cell? ⟨gb300, 3, none⟩ = some (.int .i64 0) := (blk_cell BK300.out 3).trans rfl; have hcz6_4 : w3.cell? ⟨gb300, 4, none⟩ = some (.int .i64 0) := (blk_cell BK300.out 4).trans rfl; have hcz6_5 : w3.cell? ⟨gb300, 5, none⟩ = some (.int .i64 0) := (blk_cell BK300.out 5).trans rfl; have hcz6_6 : w3.cell? ⟨gb300, 6, none⟩ = some (.slice none 0 0) := (blk_cell BK300.out 6).trans rfl; have hcz6_7 : w3.cell? ⟨gb300, 7, none⟩ = some (.slice none 0 0) := (blk_cell BK300.out 7).trans rfl; have hcz6_8 : w3.cell? ⟨gb300, 8, none⟩ = some (.slice none 0 0) := (blk_cell BK300.out 8).trans rfl; have hcz6_9 : w3.cell? ⟨gb300, 9, none⟩ = some (.slice none 0 0) := (blk_cell BK300.out 9).trans rfl; have hfz6_0 := blk_frozen BK300.out 0; have hfz6_1 := blk_frozen BK300.out 1; have hfz6_2 := blk_frozen BK300.out 2; have hfz6_3 := blk_frozen BK300.out 3; have hfz6_4 := blk_frozen BK300.out 4; have hfz6_5 := blk_frozen BK300.out 5; have hfz6_6 := blk_frozen BK300.out 6; have hfz6_7 := blk_frozen BK300.out 7; have hfz6_8 := blk_frozen BK300.out 8; have hfz6_9 := blk_frozen BK300.out 9))
 refine bodyPost_ret (results_cell_row rfl _ _ gb300 30 #[.int .i64 a0_0, .int .i64 a0_1, .int .i64 a0_2, .int .i64 a0_3, .int .i64 a0_4, .int .i64 a0_5, .slice A0_6 l0_6.length c0_6, .slice A0_7 l0_7.length c0_7, .slice A0_8 l0_8.length c0_8, .slice A0_9 l0_9.length c0_9] (0, 0) _ rfl (by (with_reducible repeat (first | refine blk_drewN ?_ _ | refine blk_drew ?_ | refine blk_alloc ?_ _)); refine blk_put (cs := #[.int .i64 a0_0, .int .i64 a0_1, .int .i64 a0_2, .int .i64 a0_3, .int .i64 a0_4, .int .i64 a0_5, .slice A0_6 l0_6.length c0_6, .slice A0_7 l0_7.length c0_7, .slice A0_8 l0_8.length c0_8, .slice none 0 0]) ?_ 9 _ rfl; (with_reducible repeat (first | refine blk_drewN ?_ _ | refine blk_drew ?_ | refine blk_alloc ?_ _)); refine blk_put (cs := #[.int .i64 a0_0, .int .i64 a0_1, .int .i64 a0_2, .int .i64 a0_3, .int .i64 a0_4, .int .i64 a0_5, .slice A0_6 l0_6.length c0_6, .slice A0_7 l0_7.length c0_7, .slice none 0 0, .slice none 0 0]) ?_ 8 _ rfl; (with_reducible repeat (first | refine blk_drewN ?_ _ | refine blk_drew ?_ | refine blk_alloc ?_ _)); refine blk_put (cs := #[.int .i64 a0_0, .int .i64 a0_1, .int .i64 a0_2, .int .i64 a0_3, .int .i64 a0_4, .int .i64 a0_5, .slice A0_6 l0_6.length c0_6, .slice none 0 0, .slice none 0 0, .slice none 0 0]) ?_ 7 _ rfl; (with_reducible repeat (first | refine blk_drewN ?_ _ | refine blk_drew ?_ | refine blk_alloc ?_ _)); refine blk_put (cs := #[.int .i64 a0_0, .int .i64 a0_1, .int .i64 a0_2, .int .i64 a0_3, .int .i64 a0_4, .int .i64 a0_5, .slice none 0 0, .slice none 0 0, .slice none 0 0, .slice none 0 0]) ?_ 6 _ rfl; (with_reducible repeat (first | refine blk_drewN ?_ _ | refine blk_drew ?_ | refine blk_alloc ?_ _)); refine blk_put (cs := #[.int .i64 a0_0, .int .i64 a0_1, .int .i64 a0_2, .int .i64 a0_3, .int .i64 a0_4, .int .i64 0, .slice none 0 0, .slice none 0 0, .slice none 0 0, .slice none 0 0]) ?_ 5 _ rfl; (with_reducible repeat (first | refine blk_drewN ?_ _ | refine blk_drew ?_ | refine blk_alloc ?_ _)); refine blk_put (cs := #[.int .i64 a0_0, .int .i64 a0_1, .int .i64 a0_2, .int .i64 a0_3, .int .i64 0, .int .i64 0, .slice none 0 0, .slice none 0 0, .slice none 0 0, .slice none 0 0]) ?_ 4 _ rfl; (with_reducible repeat (first | refine blk_drewN ?_ _ | refine blk_drew ?_ | refine blk_alloc ?_ _)); refine blk_put (cs := #[.int .i64 a0_0, .int .i64 a0_1, .int .i64 a0_2, .int .i64 0, .int .i64 0, .int .i64 0, .slice none 0 0, .slice none 0 0, .slice none 0 0, .slice none 0 0]) ?_ 3 _ rfl; (with_reducible repeat (first | refine blk_drewN ?_ _ | refine blk_drew ?_ | refine blk_alloc ?_ _)); refine blk_put (cs := #[.int .i64 a0_0, .int .i64 a0_1, .int .i64 0, .int .i64 0, .int .i64 0, .int .i64 0, .slice none 0 0, .slice none 0 0, .slice none 0 0, .slice none 0 0]) ?_ 2 _ rfl; (with_reducible repeat (first | refine blk_drewN ?_ _ | refine blk_drew ?_ | refine blk_alloc ?_ _)); refine blk_put (cs := #[.int .i64 a0_0, .int .i64 0, .int .i64 0, .int .i64 0, .int .i64 0, .int .i64 0, .slice none 0 0, .slice none 0 0, .slice none 0 0, .slice none 0 0]) ?_ 1 _ rfl; (with_reducible repeat (first | refine blk_drewN ?_ _ | refine blk_drew ?_ | refine blk_alloc ?_ _)); refine blk_put (cs := #[.int .i64 0, .int .i64 0, .int .i64 0, .int .i64 0, .int .i64 0, .int .i64 0, .slice none 0 0, .slice none 0 0, .slice none 0 0, .slice none 0 0]) ?_ 0 _ rfl; (with_reducible repeat (first | refine blk_drewN ?_ _ | refine blk_drew ?_ | refine blk_alloc ?_ _)); exact BK300.out) Try.underlying30 rfl (by kernel_rfl)) rfl ?_
 exact ⟨_, _, _, _, by first | rfl | (simp [errW_none, errW_some] <;> rfl) | (simp [*, errW_none, errW_some] <;> rfl), by (with_reducible repeat (first | apply Kd.V_alloc | apply Kd.V_drewN | apply Kd.V_drew)); exact Kd.V_mono (Kd.V_far (p := ⟨gb300, 9, none⟩) (Kd.V_far (p := ⟨gb300, 8, none⟩) (Kd.V_far (p := ⟨gb300, 7, none⟩) (Kd.V_far (p := ⟨gb300, 6, none⟩) (Kd.V_far (p := ⟨gb300, 5, none⟩) (Kd.V_far (p := ⟨gb300, 4, none⟩) (Kd.V_far (p := ⟨gb300, 3, none⟩) (Kd.V_far (p := ⟨gb300, 2, none⟩) (Kd.V_far (p := ⟨gb300, 1, none⟩) (Kd.V_far (p := ⟨gb300, 0, none⟩) (Kd.V_mono HO0_6.out (fun k_ hk => (⟨hk, hk.2⟩ : _ ∧ k_ ≠ gb300))) (fun _ hk => hk.2) (.int .i64 a0_0)) (fun _ hk => hk.2) (.int .i64 a0_1)) (fun _ hk => hk.2) (.int .i64 a0_2)) (fun _ hk => hk.2) (.int .i64 a0_3)) (fun _ hk => hk.2) (.int .i64 a0_4)) (fun _ hk => hk.2) (.int .i64 a0_5)) (fun _ hk => hk.2) (.slice A0_6 l0_6.length c0_6)) (fun _ hk => hk.2) (.slice A0_7 l0_7.length c0_7)) (fun _ hk => hk.2) (.slice A0_8 l0_8.length c0_8)) (fun _ hk => hk.2) (.slice A0_9 l0_9.length c0_9)) (fun _ hk => hk.1.1.1), by (with_reducible repeat (first | apply Kd.V_alloc | apply Kd.V_drewN | apply Kd.V_drew)); exact Kd.V_mono (Kd.V_far (p := ⟨gb300, 9, none⟩) (Kd.V_far (p := ⟨gb300, 8, none⟩) (Kd.V_far (p := ⟨gb300, 7, none⟩) (Kd.V_far (p := ⟨gb300, 6, none⟩) (Kd.V_far (p := ⟨gb300, 5, none⟩) (Kd.V_far (p := ⟨gb300, 4, none⟩) (Kd.V_far (p := ⟨gb300, 3, none⟩) (Kd.V_far (p := ⟨gb300, 2, none⟩) (Kd.V_far (p := ⟨gb300, 1, none⟩) (Kd.V_far (p := ⟨gb300, 0, none⟩) (Kd.V_mono HO0_7.out (fun k_ hk => (⟨hk, hk.2⟩ : _ ∧ k_ ≠ gb300))) (fun _ hk => hk.2) (.int .i64 a0_0)) (fun _ hk => hk.2) (.int .i64 a0_1)) (fun _ hk => hk.2) (.int .i64 a0_2)) (fun _ hk => hk.2) (.int .i64 a0_3)) (fun _ hk => hk.2) (.int .i64 a0_4)) (fun _ hk => hk.2) (.int .i64 a0_5)) (fun _ hk => hk.2) (.slice A0_6 l0_6.length c0_6)) (fun _ hk => hk.2) (.slice A0_7 l0_7.length c0_7)) (fun _ hk => hk.2) (.slice A0_8 l0_8.length c0_8)) (fun _ hk => hk.2) (.slice A0_9 l0_9.length c0_9)) (fun _ hk => hk.1.1.1), by (with_reducible repeat (first | apply Kd.V_alloc | apply Kd.V_drewN | apply Kd.V_drew)); exact Kd.V_mono (Kd.V_far (p := ⟨gb300, 9, none⟩) (Kd.V_far (p := ⟨gb300, 8, none⟩) (Kd.V_far (p := ⟨gb300, 7, none⟩) (Kd.V_far (p := ⟨gb300, 6, none⟩) (Kd.V_far (p := ⟨gb300, 5, none⟩) (Kd.V_far (p := ⟨gb300, 4, none⟩) (Kd.V_far (p := ⟨gb300, 3, none⟩) (Kd.V_far (p := ⟨gb300, 2, none⟩) (Kd.V_far (p := ⟨gb300, 1, none⟩) (Kd.V_far (p := ⟨gb300, 0, none⟩) (Kd.V_mono HO0_8.out (fun k_ hk => (⟨hk, hk.2⟩ : _ ∧ k_ ≠ gb300))) (fun _ hk => hk.2) (.int .i64 a0_0)) (fun _ hk => hk.2) (.int .i64 a0_1)) (fun _ hk => hk.2) (.int .i64 a0_2)) (fun _ hk => hk.2) (.int .i64 a0_3)) (fun _ hk => hk.2) (.int .i64 a0_4)) (fun _ hk => hk.2) (.int .i64 a0_5)) (fun _ hk => hk.2) (.slice A0_6 l0_6.length c0_6)) (fun _ hk => hk.2) (.slice A0_7 l0_7.length c0_7)) (fun _ hk => hk.2) (.slice A0_8 l0_8.length c0_8)) (fun _ hk => hk.2) (.slice A0_9 l0_9.length c0_9)) (fun _ hk => hk.1.1.1), by (with_reducible repeat (first | apply Kd.V_alloc | apply Kd.V_drewN | apply Kd.V_drew)); exact Kd.V_mono (Kd.V_far (p := ⟨gb300, 9, none⟩) (Kd.V_far (p := ⟨gb300, 8, none⟩) (Kd.V_far (p := ⟨gb300, 7, none⟩) (Kd.V_far (p := ⟨gb300, 6, none⟩) (Kd.V_far (p := ⟨gb300, 5, none⟩) (Kd.V_far (p := ⟨gb300, 4, none⟩) (Kd.V_far (p := ⟨gb300, 3, none⟩) (Kd.V_far (p := ⟨gb300, 2, none⟩) (Kd.V_far (p := ⟨gb300, 1, none⟩) (Kd.V_far (p := ⟨gb300, 0, none⟩) (Kd.V_mono HO0_9.out (fun k_ hk => (⟨hk, hk.2⟩ : _ ∧ k_ ≠ gb300))) (fun _ hk => hk.2) (.int .i64 a0_0)) (fun _ hk => hk.2) (.int .i64 a0_1)) (fun _ hk => hk.2) (.int .i64 a0_2)) (fun _ hk => hk.2) (.int .i64 a0_3)) (fun _ hk => hk.2) (.int .i64 a0_4)) (fun _ hk => hk.2) (.int .i64 a0_5)) (fun _ hk => hk.2) (.slice A0_6 l0_6.length c0_6)) (fun _ hk => hk.2) (.slice A0_7 l0_7.length c0_7)) (fun _ hk => hk.2) (.slice A0_8 l0_8.length c0_8)) (fun _ hk => hk.2) (.slice A0_9 l0_9.length c0_9)) (fun _ hk => hk.1.1.1), by repeat (first | (with_reducible first | exact HB.out | apply below_alloc | apply pw_below_drewN | apply below_drew1 | refine below_set ?_ GE299.out | refine below_set ?_ GE300.out) | exact HB.out)⟩
def quarrelref20_low.f (a0 : Int) : Option (Int) := if a0 < 0 then (some ((wrap64 (a0 + 256)) % 256)) else (some ((a0) % 256))
end Go.Proofs.Ythfkgnkojhocbaa.S
end
