/- Part 6 of the proof of scriptReads_holds. Conditions stand in each theorem; nothing is assumed. Gathered by a program of this session out of its texts and the kit's words. -/
import Derived.Test.YthfkgnkojhocbaaZR5
import Derived.KernelRfl
import Derived.SizedLaws
import Derived.ChangeSlices
section
namespace Go.Proofs.Ythfkgnkojhocbaa.S
open Go.RowKit Go.Proofs.YthfkgnkojhocbaaW.PrintWords Go.Proofs.YthfkgnkojhocbaaW.PrintLast Go.Proofs.YthfkgnkojhocbaaW.PrintMore
attribute [local go_sem] max2_int min2_int max_two min_two max_three min_three max_four min_four
set_option linter.unusedVariables false
set_option linter.unusedSimpArgs false
def quarrellaw20_ScriptReads.f (k : Nat) (l0 : List Int) : Option (Bool) := (quarrellaw20_alive.f k).bind fun t185 => (if t185 = true then (if (l0.length : Int) > 3000 then (some true) else ((some (([] : List Int) : List Int)).bind fun y186 => (if y186.length + l0.length < 140737488355328 then ((script_Get.f k (y186 ++ l0)).bind fun bt192 => ((quarrelref20_Get.f k l0).bind fun bt213 => (if bt192.2.2.2.2.2.2.2.2.2.2.1 = bt213.2.2.2.2.2.2.2.2.2.2.1 then (if bt192.2.2.2.2.2.2.2.2.2.2.2 = bt213.2.2.2.2.2.2.2.2.2.2.2 then ((quarrellaw20_same.f k bt192.1 bt192.2.1 bt192.2.2.1 bt192.2.2.2.1 bt192.2.2.2.2.1 bt192.2.2.2.2.2.1 bt192.2.2.2.2.2.2.1 bt192.2.2.2.2.2.2.2.1 bt192.2.2.2.2.2.2.2.2.1 bt192.2.2.2.2.2.2.2.2.2.1 bt213.1 bt213.2.1 bt213.2.2.1 bt213.2.2.2.1 bt213.2.2.2.2.1 bt213.2.2.2.2.2.1 bt213.2.2.2.2.2.2.1 bt213.2.2.2.2.2.2.2.1 bt213.2.2.2.2.2.2.2.2.1 bt213.2.2.2.2.2.2.2.2.2.1).bind fun t234 => (some t234)) else (some false)) else (some false)))) else (none)))) else (some false))
theorem quarrellaw20_ScriptReads.mono : ∀ a0 k, LeO (quarrellaw20_ScriptReads.f k a0) (quarrellaw20_ScriptReads.f (k + 1) a0) := by
  intro a0 k
  unfold quarrellaw20_ScriptReads.f
  repeat' first
      | (with_reducible exact quarrellaw20_alive.mono _)
      | (with_reducible exact quarrellaw20_same.mono _ _ _ _ _ _ _ _ _ _ _ _ _ _ _ _ _ _ _ _ _)
      | (with_reducible exact quarrelref20_Get.mono _ _)
      | (with_reducible exact script_Get.mono _ _)
      | (with_reducible exact LeO.refl _)
      | (with_reducible exact LeO.none _)
      | (with_reducible refine LeO.ite ?_ ?_)
      | (with_reducible refine LeO.bind ?_ (fun _ => ?_))
      | exact quarrellaw20_alive.mono _
      | exact quarrellaw20_same.mono _ _ _ _ _ _ _ _ _ _ _ _ _ _ _ _ _ _ _ _ _
      | exact quarrelref20_Get.mono _ _
      | exact script_Get.mono _ _
      | exact LeO.none _
      | refine LeO.ite ?_ ?_
      | refine LeO.bind ?_ (fun _ => ?_)
set_option maxHeartbeats 8000000 in
set_option maxRecDepth 100000 in
theorem quarrellaw20_ScriptReads.calls (k : Nat) (A0 : Option Addr) (c0 : Nat) (l0 : List Int) (r : Bool) (w : World) (hr0 : Kd.C (Kd.int .u8) w A0 l0.length l0) (hc0 : l0.length ≤ c0) (h : quarrellaw20_ScriptReads.f k l0 = some r) :
  Calls Try.prog 3 #[.slice A0 l0.length c0] w fun e w' => e = .returned (.bool r) ∧ Below w.heap.size w w' := by
 have hu30 := Try.underlying30
 have hu34 := Try.underlying34
 have HR0 := Aside0.mk hr0
 have HC0 := Aside0.mk hc0
 clear hr0 hc0
 have HB := Aside0.mk (Below.refl w.heap.size w)
 have H : ((quarrellaw20_alive.f k).bind fun t185 => (if t185 = true then (if (l0.length : Int) > 3000 then (some true) else ((some (([] : List Int) : List Int)).bind fun y186 => (if y186.length + l0.length < 140737488355328 then ((script_Get.f k (y186 ++ l0)).bind fun bt192 => ((quarrelref20_Get.f k l0).bind fun bt213 => (if bt192.2.2.2.2.2.2.2.2.2.2.1 = bt213.2.2.2.2.2.2.2.2.2.2.1 then (if bt192.2.2.2.2.2.2.2.2.2.2.2 = bt213.2.2.2.2.2.2.2.2.2.2.2 then ((quarrellaw20_same.f k bt192.1 bt192.2.1 bt192.2.2.1 bt192.2.2.2.1 bt192.2.2.2.2.1 bt192.2.2.2.2.2.1 bt192.2.2.2.2.2.2.1 bt192.2.2.2.2.2.2.2.1 bt192.2.2.2.2.2.2.2.2.1 bt192.2.2.2.2.2.2.2.2.2.1 bt213.1 bt213.2.1 bt213.2.2.1 bt213.2.2.2.1 bt213.2.2.2.2.1 bt213.2.2.2.2.2.1 bt213.2.2.2.2.2.2.1 bt213.2.2.2.2.2.2.2.1 bt213.2.2.2.2.2.2.2.2.1 bt213.2.2.2.2.2.2.2.2.2.1).bind fun t234 => (some t234)) else (some false)) else (some false)))) else (none)))) else (some false))) = some r := h
 clear h
 replace H := Option.bind_eq_some_iff.mp H
 obtain ⟨t185, A20, H⟩ := H
 replace H : (if t185 = true then (if (l0.length : Int) > 3000 then (some true) else ((some (([] : List Int) : List Int)).bind fun y186 => (if y186.length + l0.length < 140737488355328 then ((script_Get.f k (y186 ++ l0)).bind fun bt192 => ((quarrelref20_Get.f k l0).bind fun bt213 => (if bt192.2.2.2.2.2.2.2.2.2.2.1 = bt213.2.2.2.2.2.2.2.2.2.2.1 then (if bt192.2.2.2.2.2.2.2.2.2.2.2 = bt213.2.2.2.2.2.2.2.2.2.2.2 then ((quarrellaw20_same.f k bt192.1 bt192.2.1 bt192.2.2.1 bt192.2.2.2.1 bt192.2.2.2.2.1 bt192.2.2.2.2.2.1 bt192.2.2.2.2.2.2.1 bt192.2.2.2.2.2.2.2.1 bt192.2.2.2.2.2.2.2.2.1 bt192.2.2.2.2.2.2.2.2.2.1 bt213.1 bt213.2.1 bt213.2.2.1 bt213.2.2.2.1 bt213.2.2.2.2.1 bt213.2.2.2.2.2.1 bt213.2.2.2.2.2.2.1 bt213.2.2.2.2.2.2.2.1 bt213.2.2.2.2.2.2.2.2.1 bt213.2.2.2.2.2.2.2.2.2.1).bind fun t234 => (some t234)) else (some false)) else (some false)))) else (none)))) else (some false)) = some r := H
 have A2 := Aside0.mk A20
 clear A20
 by_cases c3 : t185 = true
 ·subst c3
  have H1 : (if (l0.length : Int) > 3000 then (some true) else ((some (([] : List Int) : List Int)).bind fun y186 => (if y186.length + l0.length < 140737488355328 then ((script_Get.f k (y186 ++ l0)).bind fun bt192 => ((quarrelref20_Get.f k l0).bind fun bt213 => (if bt192.2.2.2.2.2.2.2.2.2.2.1 = bt213.2.2.2.2.2.2.2.2.2.2.1 then (if bt192.2.2.2.2.2.2.2.2.2.2.2 = bt213.2.2.2.2.2.2.2.2.2.2.2 then ((quarrellaw20_same.f k bt192.1 bt192.2.1 bt192.2.2.1 bt192.2.2.2.1 bt192.2.2.2.2.1 bt192.2.2.2.2.2.1 bt192.2.2.2.2.2.2.1 bt192.2.2.2.2.2.2.2.1 bt192.2.2.2.2.2.2.2.2.1 bt192.2.2.2.2.2.2.2.2.2.1 bt213.1 bt213.2.1 bt213.2.2.1 bt213.2.2.2.1 bt213.2.2.2.2.1 bt213.2.2.2.2.2.1 bt213.2.2.2.2.2.2.1 bt213.2.2.2.2.2.2.2.1 bt213.2.2.2.2.2.2.2.2.1 bt213.2.2.2.2.2.2.2.2.2.1).bind fun t234 => (some t234)) else (some false)) else (some false)))) else (none)))) = some r := by rw [if_pos rfl] at H; exact H
  clear H
  have H := H1
  clear H1
  by_cases c4 : (l0.length : Int) > 3000
  ·rw [if_pos c4] at H
   have c4b0 : decide (3000 < (l0.length : Int)) = true := decide_eq_true c4
   have c4b1 : decide (3000 < l0.length) = true := decide_eq_true (by omega)
   clear c4
   obtain rfl := Option.some.inj H
   go_enter Try.func3, Try.ntmps3
   go_wp2_with (first | ((with_reducible refine gate_callee (f := 9) rfl ?_); refine goesL_ (some 9) rfl rfl Try.func9 (by kernel_rfl) rfl #[] rfl (by (try simp only [List.map_toArray, List.map_cons, List.map_nil]); first | done | rfl | (simp only [List.length_drop, List.length_take]; rfl)) ?_; (with_reducible refine (quarrellaw20_alive.calls k  true _ A2.out).mono ?_); rintro e w5 ⟨rfl, hb⟩; refine ⟨_, rfl, ?_⟩; have n0_ := Aside0.mk (below_step (by repeat (first | (with_reducible first | exact HB.out | apply bwA | apply bwN | apply bw1) | exact HB.out)) hb); clear HB; have HB := n0_; clear n0_; (try clear hb); (try clear hb2); (try clear hk); (try clear hi)))
   go_ret
   exact ⟨by first | rfl | (simp [errW_none, errW_some] <;> rfl) | (simp [*, errW_none, errW_some] <;> rfl), by repeat (first | (with_reducible first | exact HB.out | apply bwA | apply bwN | apply bw1) | exact HB.out)⟩
  ·rw [if_neg c4] at H
   have c4b0 : decide (3000 < (l0.length : Int)) = false := decide_eq_false c4
   have c4b1 : decide (3000 < l0.length) = false := decide_eq_false (by omega)
   clear c4
   obtain ⟨y186, hy186⟩ : ∃ y_ : List Int, y_ = (([] : List Int)) := ⟨_, rfl⟩
   replace H : (if y186.length + l0.length < 140737488355328 then ((script_Get.f k (y186 ++ l0)).bind fun bt192 => ((quarrelref20_Get.f k l0).bind fun bt213 => (if bt192.2.2.2.2.2.2.2.2.2.2.1 = bt213.2.2.2.2.2.2.2.2.2.2.1 then (if bt192.2.2.2.2.2.2.2.2.2.2.2 = bt213.2.2.2.2.2.2.2.2.2.2.2 then ((quarrellaw20_same.f k bt192.1 bt192.2.1 bt192.2.2.1 bt192.2.2.2.1 bt192.2.2.2.2.1 bt192.2.2.2.2.2.1 bt192.2.2.2.2.2.2.1 bt192.2.2.2.2.2.2.2.1 bt192.2.2.2.2.2.2.2.2.1 bt192.2.2.2.2.2.2.2.2.2.1 bt213.1 bt213.2.1 bt213.2.2.1 bt213.2.2.2.1 bt213.2.2.2.2.1 bt213.2.2.2.2.2.1 bt213.2.2.2.2.2.2.1 bt213.2.2.2.2.2.2.2.1 bt213.2.2.2.2.2.2.2.2.1 bt213.2.2.2.2.2.2.2.2.2.1).bind fun t234 => (some t234)) else (some false)) else (some false)))) else (none)) = some r := by first | (rw [hy186]; with_reducible exact H) | (have H2_ := (Option.bind_some _ _).symm.trans H; rw [hy186]; with_reducible exact H2_) | (have H2_ := (Option.bind_some _ _).symm.trans H; with_reducible exact H2_) | with_reducible exact H | (rw [hy186]; exact H) | exact H
   have Ny186 := Aside0.mk hy186
   clear hy186
   by_cases c6 : y186.length + l0.length < 140737488355328
   ·rw [if_pos c6] at H
    have LMc6 := Aside0.mk c6
    clear c6
    obtain ⟨y189, hy189⟩ : ∃ y_ : List Int, y_ = (y186 ++ l0) := ⟨_, rfl⟩
    replace H : ((script_Get.f k y189).bind fun bt192 => ((quarrelref20_Get.f k l0).bind fun bt213 => (if bt192.2.2.2.2.2.2.2.2.2.2.1 = bt213.2.2.2.2.2.2.2.2.2.2.1 then (if bt192.2.2.2.2.2.2.2.2.2.2.2 = bt213.2.2.2.2.2.2.2.2.2.2.2 then ((quarrellaw20_same.f k bt192.1 bt192.2.1 bt192.2.2.1 bt192.2.2.2.1 bt192.2.2.2.2.1 bt192.2.2.2.2.2.1 bt192.2.2.2.2.2.2.1 bt192.2.2.2.2.2.2.2.1 bt192.2.2.2.2.2.2.2.2.1 bt192.2.2.2.2.2.2.2.2.2.1 bt213.1 bt213.2.1 bt213.2.2.1 bt213.2.2.2.1 bt213.2.2.2.2.1 bt213.2.2.2.2.2.1 bt213.2.2.2.2.2.2.1 bt213.2.2.2.2.2.2.2.1 bt213.2.2.2.2.2.2.2.2.1 bt213.2.2.2.2.2.2.2.2.2.1).bind fun t234 => (some t234)) else (some false)) else (some false)))) = some r := by first | (rw [hy189]; with_reducible exact H) | (have H2_ := (Option.bind_some _ _).symm.trans H; rw [hy189]; with_reducible exact H2_) | (have H2_ := (Option.bind_some _ _).symm.trans H; with_reducible exact H2_) | with_reducible exact H | (rw [hy189]; exact H) | exact H
    have Ny189 := Aside0.mk hy189
    clear hy189
    replace H := Option.bind_eq_some_iff.mp H
    obtain ⟨⟨t192, t193, t194, t195, t196, t197, t198, t201, t204, t207, t210, t211⟩, A70, H⟩ := H
    replace H : ((quarrelref20_Get.f k l0).bind fun bt213 => (if t210 = bt213.2.2.2.2.2.2.2.2.2.2.1 then (if t211 = bt213.2.2.2.2.2.2.2.2.2.2.2 then ((quarrellaw20_same.f k t192 t193 t194 t195 t196 t197 t198 t201 t204 t207 bt213.1 bt213.2.1 bt213.2.2.1 bt213.2.2.2.1 bt213.2.2.2.2.1 bt213.2.2.2.2.2.1 bt213.2.2.2.2.2.2.1 bt213.2.2.2.2.2.2.2.1 bt213.2.2.2.2.2.2.2.2.1 bt213.2.2.2.2.2.2.2.2.2.1).bind fun t234 => (some t234)) else (some false)) else (some false))) = some r := H
    have A7 := Aside0.mk A70
    clear A70
    replace H := Option.bind_eq_some_iff.mp H
    obtain ⟨⟨t213, t214, t215, t216, t217, t218, t219, t222, t225, t228, t231, t232⟩, A80, H⟩ := H
    replace H : (if t210 = t231 then (if t211 = t232 then ((quarrellaw20_same.f k t192 t193 t194 t195 t196 t197 t198 t201 t204 t207 t213 t214 t215 t216 t217 t218 t219 t222 t225 t228).bind fun t234 => (some t234)) else (some false)) else (some false)) = some r := H
    have A8 := Aside0.mk A80
    clear A80
    by_cases c9 : t210 = t231
    ·rw [if_pos c9] at H
     have c9b0 : (t210 == t231) = true := beq_iff_eq.mpr c9
     have c9b1 : (t210 != t231) = false := bne_eq_false_iff_eq.mpr c9
     clear c9
     by_cases c10 : t211 = t232
     ·rw [if_pos c10] at H
      have c10b0 : (t211 == t232) = true := beq_iff_eq.mpr c10
      have c10b1 : (t211 != t232) = false := bne_eq_false_iff_eq.mpr c10
      clear c10
      replace H := Option.bind_eq_some_iff.mp H
      obtain ⟨t234, A110, H⟩ := H
      replace H : (some t234) = some r := H
      have A11 := Aside0.mk A110
      clear A110
      obtain rfl := Option.some.inj H
      go_enter Try.func3, Try.ntmps3
      go_wp2_with (first | ((with_reducible refine gate_callee (f := 9) rfl ?_); refine goesL_ (some 9) rfl rfl Try.func9 (by kernel_rfl) rfl #[] rfl (by (try simp only [List.map_toArray, List.map_cons, List.map_nil]); first | done | rfl | (simp only [List.length_drop, List.length_take]; rfl)) ?_; (with_reducible refine (quarrellaw20_alive.calls k  true _ A2.out).mono ?_); rintro e w12 ⟨rfl, hb⟩; refine ⟨_, rfl, ?_⟩; have n0_ := Aside0.mk (below_step (by repeat (first | (with_reducible first | exact HB.out | apply bwA | apply bwN | apply bw1) | exact HB.out)) hb); clear HB; have HB := n0_; clear n0_; (try clear hb); (try clear hb2); (try clear hk); (try clear hi)) | ((with_reducible refine gate_dst (N := 15) rfl ?_); refine Kd.R_lit (Kd.int .u8) _ 5 ?hg (N := 15) ?hd (xs := ([] : List Int)) (inner := []) (ok := fun _ => True) (okp := fun _ => True) ?hr ?hp (fun _ hk => hk) trivial (Below.refl _ _) (Nat.le_refl _) (by simp) ?_; (case hd => rfl); (case hg => rfl); (case hr => first | (go_simp; done) | (go_simp; rfl)); (case hp => exact (Reps.none _ _)); intro v187 w13 ho14 hb hg_ hnew_; clear hg_ hnew_; (first | rw [← Ny186.out] at ho14 | (simp only [Int.reduceToNat] at ho14; rw [← Ny186.out] at ho14)); have n0_ := Aside0.mk (Kd.R_lower ho14 (below_size (by repeat (first | (with_reducible first | exact HB.out | apply bwA | apply bwN | apply bw1) | exact HB.out)))); have n1_ := Aside0.mk (below_step (by repeat (first | (with_reducible first | exact HB.out | apply bwA | apply bwN | apply bw1) | exact HB.out)) hb); clear HB; have HO188 := n0_; have HB := n1_; clear n0_ n1_; clear hb ho14) | ((with_reducible refine gate_builtin (b := .append) (xs := #[.tmp 15, .tmp 16]) rfl ?_); at_builtin; refine Kd.R_append_rows (Kd.int .u8) (w0 := w) w.heap.size rfl (.tmp 15) (.tmp 16) 22 5 (.int .u8 0) 1 rfl Try.underlying22 info5 rfl (by decide) (by omega) v187 y186 l0 _ _ _ (fun _ => True) (fun _ => False) rfl rfl ?aO ?aR (fun _ _ h => h) (fun _ h => h.elim) ?aF ?aB ?aS ?aL ?_; (case aR => repeat (first | exact (Kd.C_below HR0.out HB.out) | (with_reducible refine Kd.C_alloc ?_ _) | (with_reducible refine Kd.C_drewN ?_ _) | (with_reducible refine Kd.C_drew ?_))); (case aB => exact (by repeat (first | (with_reducible first | exact HB.out | apply bwA | apply bwN | apply bw1) | exact HB.out))); (case aF => exact (fun _ _ => trivial)); (case aO => exact (by (with_reducible repeat (first | apply Kd.R_alloc | apply Kd.R_drewN | apply Kd.R_drew)); exact HO188.out)); (case aS => exact (below_size (by repeat (first | (with_reducible first | exact HB.out | apply bwA | apply bwN | apply bw1) | exact HB.out)))); (case aL => have := LMc6.out; omega); intro v190 w15 ho hb hg hat; rw [← Ny189.out] at ho; have n0_ := Aside0.mk (hb); have n1_ := Aside0.mk (ho); clear HB; clear HO188; have HB := n0_; have HO191 := n1_; clear n0_ n1_; clear ho hb hg hat; obtain ⟨Ao16, co16, eo16⟩ := Kd.R_slice HO191.out; subst eo16) | ((with_reducible refine gate_callee (f := 10) rfl ?_); refine goesL_ (some 18) rfl rfl Try.func10 (by kernel_rfl) rfl #[.slice Ao16 y189.length co16] rfl (by (try simp only [List.map_toArray, List.map_cons, List.map_nil]); first | done | rfl | (simp only [List.length_drop, List.length_take]; rfl)) ?_; (with_reducible refine (script_Get.calls k _ _ y189 t192 t193 t194 t195 t196 t197 t198 t201 t204 t207 t210 t211 _ ?side1 ?side2 A7.out).mono ?_); (case side1 => repeat (first | exact (Kd.R_reads' HO191.out).2.2 | (with_reducible refine Kd.C_alloc ?_ _) | (with_reducible refine Kd.C_drewN ?_ _) | (with_reducible refine Kd.C_drew ?_))); (case side2 => exact (Kd.R_reads' HO191.out).2.1); rintro e w17 ⟨v199, v202, v205, v208, rfl, ho0, ho1, ho2, ho3, hb⟩; refine ⟨_, rfl, ?_⟩; have n0_ := Aside0.mk (Kd.R_elder' (by (with_reducible repeat (first | apply Kd.R_alloc | apply Kd.R_drewN | apply Kd.R_drew)); exact HO191.out) (Kd.R_base ho1) hb); have n1_ := Aside0.mk (Kd.R_lower ho0 (below_size (by repeat (first | (with_reducible first | exact HB.out | apply bwA | apply bwN | apply bw1) | exact HB.out)))); have n2_ := Aside0.mk (Kd.R_lower (Kd.R_new' ho1 (Kd.R_lt (by (with_reducible repeat (first | apply Kd.R_alloc | apply Kd.R_drewN | apply Kd.R_drew)); exact HO191.out))) (below_size (by repeat (first | (with_reducible first | exact HB.out | apply bwA | apply bwN | apply bw1) | exact HB.out)))); have n3_ := Aside0.mk (Kd.R_lower ho2 (below_size (by repeat (first | (with_reducible first | exact HB.out | apply bwA | apply bwN | apply bw1) | exact HB.out)))); have n4_ := Aside0.mk (Kd.R_lower ho3 (below_size (by repeat (first | (with_reducible first | exact HB.out | apply bwA | apply bwN | apply bw1) | exact HB.out)))); have n5_ := Aside0.mk (below_step (by repeat (first | (with_reducible first | exact HB.out | apply bwA | apply bwN | apply bw1) | exact HB.out)) hb); clear HO191; clear HB; have HO191 := n0_; have HO200 := n1_; have HO203 := n2_; have HO206 := n3_; have HO209 := n4_; have HB := n5_; clear n0_ n1_ n2_ n3_ n4_ n5_; (try clear hb); (try clear hb2); (try clear hk); (try clear hi); (try clear ho0); (try clear ho1); (try clear ho2); (try clear ho3)) | ((with_reducible refine gate_dst (N := 3) rfl ?_); refine box_event ?hg (N := 3) ?hd (cs := #[.int .i64 0, .int .i64 0, .int .i64 0, .int .i64 0, .int .i64 0, .int .i64 0, .slice none 0 0, .slice none 0 0, .slice none 0 0, .slice none 0 0]) (t := 30) ?hr ?_; (case hd => rfl); (case hg => rfl); (case hr => first | (go_simp; done) | (go_simp; rfl)); intro gb212 hg w18 hbox hb; have n0_ := Aside0.mk (Kd.R_below (by (with_reducible repeat (first | apply Kd.R_alloc | apply Kd.R_drewN | apply Kd.R_drew)); exact HO191.out) hb); have n1_ := Aside0.mk (Kd.R_below (by (with_reducible repeat (first | apply Kd.R_alloc | apply Kd.R_drewN | apply Kd.R_drew)); exact HO200.out) hb); have n2_ := Aside0.mk (Kd.R_below (by (with_reducible repeat (first | apply Kd.R_alloc | apply Kd.R_drewN | apply Kd.R_drew)); exact HO203.out) hb); have n3_ := Aside0.mk (Kd.R_below (by (with_reducible repeat (first | apply Kd.R_alloc | apply Kd.R_drewN | apply Kd.R_drew)); exact HO206.out) hb); have n4_ := Aside0.mk (Kd.R_below (by (with_reducible repeat (first | apply Kd.R_alloc | apply Kd.R_drewN | apply Kd.R_drew)); exact HO209.out) hb); have n5_ := Aside0.mk (below_step (by repeat (first | (with_reducible first | exact HB.out | apply bwA | apply bwN | apply bw1) | exact HB.out)) hb); have n6_ := Aside0.mk (hbox); have n7_ := Aside0.mk ((by rw [hg]; exact (below_size (by repeat (first | (with_reducible first | exact HB.out | apply bwA | apply bwN | apply bw1) | exact HB.out))) : w.heap.size ≤ gb212)); have n8_ := Aside0.mk ((by rw [hg]; exact (below_size (by repeat (first | (with_reducible first | exact HB.out | apply bwA | apply bwN | apply bw1) | exact HB.out))) : w.heap.size ≤ gb212)); clear HO191; clear HO200; clear HO203; clear HO206; clear HO209; clear HB; have HO191 := n0_; have HO200 := n1_; have HO203 := n2_; have HO206 := n3_; have HO209 := n4_; have HB := n5_; have BK212 := n6_; have GW212 := n7_; have GE212 := n8_; clear n0_ n1_ n2_ n3_ n4_ n5_ n6_ n7_ n8_; clear hb hbox hg; obtain ⟨hcz19_0, hcz19_1, hcz19_2, hcz19_3, hcz19_4, hcz19_5, hcz19_6, hcz19_7, hcz19_8, hcz19_9, hfz19_0, hfz19_1, hfz19_2, hfz19_3, hfz19_4, hfz19_5, hfz19_6, hfz19_7, hfz19_8, hfz19_9⟩ := cf10 BK212.out; obtain ⟨Ao20, co20, eo20⟩ := Kd.R_slice HO200.out; subst eo20; obtain ⟨Ao21, co21, eo21⟩ := Kd.R_slice HO203.out; subst eo21; obtain ⟨Ao22, co22, eo22⟩ := Kd.R_slice HO206.out; subst eo22; obtain ⟨Ao23, co23, eo23⟩ := Kd.R_slice HO209.out; subst eo23) | ((with_reducible refine gate_callee (f := 11) rfl ?_); refine goesL_ (some 24) rfl rfl Try.func11 (by kernel_rfl) rfl #[.slice A0 l0.length c0] rfl (by (try simp only [List.map_toArray, List.map_cons, List.map_nil]); first | done | rfl | (simp only [List.length_drop, List.length_take]; rfl)) ?_; (with_reducible refine (quarrelref20_Get.calls k _ _ l0 t213 t214 t215 t216 t217 t218 t219 t222 t225 t228 t231 t232 _ ?side1 ?side2 A8.out).mono ?_); (case side1 => exact Kd.C_below HR0.out (by repeat (first | (with_reducible first | exact HB.out | apply bwA | apply bwN | apply bw1 | refine bwS ?_ GE212.out) | exact HB.out))); (case side2 => exact HC0.out); rintro e w24 ⟨v220, v223, v226, v229, rfl, ho0, ho1, ho2, ho3, hb⟩; refine ⟨_, rfl, ?_⟩; have n0_ := Aside0.mk (Kd.R_elder' (by (with_reducible repeat (first | apply Kd.R_alloc | apply Kd.R_drewN | apply Kd.R_drew)); exact (Kd.R_mono (Kd.R_far (p := ⟨gb212, 9, none⟩) (Kd.R_far (p := ⟨gb212, 8, none⟩) (Kd.R_far (p := ⟨gb212, 7, none⟩) (Kd.R_far (p := ⟨gb212, 6, none⟩) (Kd.R_far (p := ⟨gb212, 5, none⟩) (Kd.R_far (p := ⟨gb212, 4, none⟩) (Kd.R_far (p := ⟨gb212, 3, none⟩) (Kd.R_far (p := ⟨gb212, 2, none⟩) (Kd.R_far (p := ⟨gb212, 1, none⟩) (Kd.R_far (p := ⟨gb212, 0, none⟩) (Kd.R_types HO191.out BK212.out (by decide)) (fun _ hk => hk.2) (.int .i64 t192)) (fun _ hk => hk.2) (.int .i64 t193)) (fun _ hk => hk.2) (.int .i64 t194)) (fun _ hk => hk.2) (.int .i64 t195)) (fun _ hk => hk.2) (.int .i64 t196)) (fun _ hk => hk.2) (.int .i64 t197)) (fun _ hk => hk.2) (.slice Ao20 t198.length co20)) (fun _ hk => hk.2) (.slice Ao21 t201.length co21)) (fun _ hk => hk.2) (.slice Ao22 t204.length co22)) (fun _ hk => hk.2) (.slice Ao23 t207.length co23)) (fun _ h_ => h_.1))) (Kd.R_base ho1) hb); have n1_ := Aside0.mk (Kd.R_elder' (by (with_reducible repeat (first | apply Kd.R_alloc | apply Kd.R_drewN | apply Kd.R_drew)); exact (Kd.R_mono (Kd.R_far (p := ⟨gb212, 9, none⟩) (Kd.R_far (p := ⟨gb212, 8, none⟩) (Kd.R_far (p := ⟨gb212, 7, none⟩) (Kd.R_far (p := ⟨gb212, 6, none⟩) (Kd.R_far (p := ⟨gb212, 5, none⟩) (Kd.R_far (p := ⟨gb212, 4, none⟩) (Kd.R_far (p := ⟨gb212, 3, none⟩) (Kd.R_far (p := ⟨gb212, 2, none⟩) (Kd.R_far (p := ⟨gb212, 1, none⟩) (Kd.R_far (p := ⟨gb212, 0, none⟩) (Kd.R_types HO200.out BK212.out (by decide)) (fun _ hk => hk.2) (.int .i64 t192)) (fun _ hk => hk.2) (.int .i64 t193)) (fun _ hk => hk.2) (.int .i64 t194)) (fun _ hk => hk.2) (.int .i64 t195)) (fun _ hk => hk.2) (.int .i64 t196)) (fun _ hk => hk.2) (.int .i64 t197)) (fun _ hk => hk.2) (.slice Ao20 t198.length co20)) (fun _ hk => hk.2) (.slice Ao21 t201.length co21)) (fun _ hk => hk.2) (.slice Ao22 t204.length co22)) (fun _ hk => hk.2) (.slice Ao23 t207.length co23)) (fun _ h_ => h_.1))) (Kd.R_base ho0) hb); have n2_ := Aside0.mk (Kd.R_elder' (by (with_reducible repeat (first | apply Kd.R_alloc | apply Kd.R_drewN | apply Kd.R_drew)); exact (Kd.R_mono (Kd.R_far (p := ⟨gb212, 9, none⟩) (Kd.R_far (p := ⟨gb212, 8, none⟩) (Kd.R_far (p := ⟨gb212, 7, none⟩) (Kd.R_far (p := ⟨gb212, 6, none⟩) (Kd.R_far (p := ⟨gb212, 5, none⟩) (Kd.R_far (p := ⟨gb212, 4, none⟩) (Kd.R_far (p := ⟨gb212, 3, none⟩) (Kd.R_far (p := ⟨gb212, 2, none⟩) (Kd.R_far (p := ⟨gb212, 1, none⟩) (Kd.R_far (p := ⟨gb212, 0, none⟩) (Kd.R_types HO203.out BK212.out (by decide)) (fun _ hk => hk.2) (.int .i64 t192)) (fun _ hk => hk.2) (.int .i64 t193)) (fun _ hk => hk.2) (.int .i64 t194)) (fun _ hk => hk.2) (.int .i64 t195)) (fun _ hk => hk.2) (.int .i64 t196)) (fun _ hk => hk.2) (.int .i64 t197)) (fun _ hk => hk.2) (.slice Ao20 t198.length co20)) (fun _ hk => hk.2) (.slice Ao21 t201.length co21)) (fun _ hk => hk.2) (.slice Ao22 t204.length co22)) (fun _ hk => hk.2) (.slice Ao23 t207.length co23)) (fun _ h_ => h_.1))) (Kd.R_base ho1) hb); have n3_ := Aside0.mk (Kd.R_elder' (by (with_reducible repeat (first | apply Kd.R_alloc | apply Kd.R_drewN | apply Kd.R_drew)); exact (Kd.R_mono (Kd.R_far (p := ⟨gb212, 9, none⟩) (Kd.R_far (p := ⟨gb212, 8, none⟩) (Kd.R_far (p := ⟨gb212, 7, none⟩) (Kd.R_far (p := ⟨gb212, 6, none⟩) (Kd.R_far (p := ⟨gb212, 5, none⟩) (Kd.R_far (p := ⟨gb212, 4, none⟩) (Kd.R_far (p := ⟨gb212, 3, none⟩) (Kd.R_far (p := ⟨gb212, 2, none⟩) (Kd.R_far (p := ⟨gb212, 1, none⟩) (Kd.R_far (p := ⟨gb212, 0, none⟩) (Kd.R_types HO206.out BK212.out (by decide)) (fun _ hk => hk.2) (.int .i64 t192)) (fun _ hk => hk.2) (.int .i64 t193)) (fun _ hk => hk.2) (.int .i64 t194)) (fun _ hk => hk.2) (.int .i64 t195)) (fun _ hk => hk.2) (.int .i64 t196)) (fun _ hk => hk.2) (.int .i64 t197)) (fun _ hk => hk.2) (.slice Ao20 t198.length co20)) (fun _ hk => hk.2) (.slice Ao21 t201.length co21)) (fun _ hk => hk.2) (.slice Ao22 t204.length co22)) (fun _ hk => hk.2) (.slice Ao23 t207.length co23)) (fun _ h_ => h_.1))) (Kd.R_base ho2) hb); have n4_ := Aside0.mk (Kd.R_elder' (by (with_reducible repeat (first | apply Kd.R_alloc | apply Kd.R_drewN | apply Kd.R_drew)); exact (Kd.R_mono (Kd.R_far (p := ⟨gb212, 9, none⟩) (Kd.R_far (p := ⟨gb212, 8, none⟩) (Kd.R_far (p := ⟨gb212, 7, none⟩) (Kd.R_far (p := ⟨gb212, 6, none⟩) (Kd.R_far (p := ⟨gb212, 5, none⟩) (Kd.R_far (p := ⟨gb212, 4, none⟩) (Kd.R_far (p := ⟨gb212, 3, none⟩) (Kd.R_far (p := ⟨gb212, 2, none⟩) (Kd.R_far (p := ⟨gb212, 1, none⟩) (Kd.R_far (p := ⟨gb212, 0, none⟩) (Kd.R_types HO209.out BK212.out (by decide)) (fun _ hk => hk.2) (.int .i64 t192)) (fun _ hk => hk.2) (.int .i64 t193)) (fun _ hk => hk.2) (.int .i64 t194)) (fun _ hk => hk.2) (.int .i64 t195)) (fun _ hk => hk.2) (.int .i64 t196)) (fun _ hk => hk.2) (.int .i64 t197)) (fun _ hk => hk.2) (.slice Ao20 t198.length co20)) (fun _ hk => hk.2) (.slice Ao21 t201.length co21)) (fun _ hk => hk.2) (.slice Ao22 t204.length co22)) (fun _ hk => hk.2) (.slice Ao23 t207.length co23)) (fun _ h_ => h_.1))) (Kd.R_base ho3) hb); have n5_ := Aside0.mk (Kd.R_lower (Kd.R_new' ho0 (Kd.R_lt (by (with_reducible repeat (first | apply Kd.R_alloc | apply Kd.R_drewN | apply Kd.R_drew)); exact (Kd.R_mono (Kd.R_far (p := ⟨gb212, 9, none⟩) (Kd.R_far (p := ⟨gb212, 8, none⟩) (Kd.R_far (p := ⟨gb212, 7, none⟩) (Kd.R_far (p := ⟨gb212, 6, none⟩) (Kd.R_far (p := ⟨gb212, 5, none⟩) (Kd.R_far (p := ⟨gb212, 4, none⟩) (Kd.R_far (p := ⟨gb212, 3, none⟩) (Kd.R_far (p := ⟨gb212, 2, none⟩) (Kd.R_far (p := ⟨gb212, 1, none⟩) (Kd.R_far (p := ⟨gb212, 0, none⟩) (Kd.R_types HO200.out BK212.out (by decide)) (fun _ hk => hk.2) (.int .i64 t192)) (fun _ hk => hk.2) (.int .i64 t193)) (fun _ hk => hk.2) (.int .i64 t194)) (fun _ hk => hk.2) (.int .i64 t195)) (fun _ hk => hk.2) (.int .i64 t196)) (fun _ hk => hk.2) (.int .i64 t197)) (fun _ hk => hk.2) (.slice Ao20 t198.length co20)) (fun _ hk => hk.2) (.slice Ao21 t201.length co21)) (fun _ hk => hk.2) (.slice Ao22 t204.length co22)) (fun _ hk => hk.2) (.slice Ao23 t207.length co23)) (fun _ h_ => h_.1))))) (below_size (by repeat (first | (with_reducible first | exact HB.out | apply bwA | apply bwN | apply bw1 | refine bwS ?_ GE212.out) | exact HB.out)))); have n6_ := Aside0.mk (Kd.R_lower (Kd.R_new' (Kd.R_new' ho1 (Kd.R_lt (by (with_reducible repeat (first | apply Kd.R_alloc | apply Kd.R_drewN | apply Kd.R_drew)); exact (Kd.R_mono (Kd.R_far (p := ⟨gb212, 9, none⟩) (Kd.R_far (p := ⟨gb212, 8, none⟩) (Kd.R_far (p := ⟨gb212, 7, none⟩) (Kd.R_far (p := ⟨gb212, 6, none⟩) (Kd.R_far (p := ⟨gb212, 5, none⟩) (Kd.R_far (p := ⟨gb212, 4, none⟩) (Kd.R_far (p := ⟨gb212, 3, none⟩) (Kd.R_far (p := ⟨gb212, 2, none⟩) (Kd.R_far (p := ⟨gb212, 1, none⟩) (Kd.R_far (p := ⟨gb212, 0, none⟩) (Kd.R_types HO191.out BK212.out (by decide)) (fun _ hk => hk.2) (.int .i64 t192)) (fun _ hk => hk.2) (.int .i64 t193)) (fun _ hk => hk.2) (.int .i64 t194)) (fun _ hk => hk.2) (.int .i64 t195)) (fun _ hk => hk.2) (.int .i64 t196)) (fun _ hk => hk.2) (.int .i64 t197)) (fun _ hk => hk.2) (.slice Ao20 t198.length co20)) (fun _ hk => hk.2) (.slice Ao21 t201.length co21)) (fun _ hk => hk.2) (.slice Ao22 t204.length co22)) (fun _ hk => hk.2) (.slice Ao23 t207.length co23)) (fun _ h_ => h_.1))))) (Kd.R_lt (by (with_reducible repeat (first | apply Kd.R_alloc | apply Kd.R_drewN | apply Kd.R_drew)); exact (Kd.R_mono (Kd.R_far (p := ⟨gb212, 9, none⟩) (Kd.R_far (p := ⟨gb212, 8, none⟩) (Kd.R_far (p := ⟨gb212, 7, none⟩) (Kd.R_far (p := ⟨gb212, 6, none⟩) (Kd.R_far (p := ⟨gb212, 5, none⟩) (Kd.R_far (p := ⟨gb212, 4, none⟩) (Kd.R_far (p := ⟨gb212, 3, none⟩) (Kd.R_far (p := ⟨gb212, 2, none⟩) (Kd.R_far (p := ⟨gb212, 1, none⟩) (Kd.R_far (p := ⟨gb212, 0, none⟩) (Kd.R_types HO203.out BK212.out (by decide)) (fun _ hk => hk.2) (.int .i64 t192)) (fun _ hk => hk.2) (.int .i64 t193)) (fun _ hk => hk.2) (.int .i64 t194)) (fun _ hk => hk.2) (.int .i64 t195)) (fun _ hk => hk.2) (.int .i64 t196)) (fun _ hk => hk.2) (.int .i64 t197)) (fun _ hk => hk.2) (.slice Ao20 t198.length co20)) (fun _ hk => hk.2) (.slice Ao21 t201.length co21)) (fun _ hk => hk.2) (.slice Ao22 t204.length co22)) (fun _ hk => hk.2) (.slice Ao23 t207.length co23)) (fun _ h_ => h_.1))))) (below_size (by repeat (first | (with_reducible first | exact HB.out | apply bwA | apply bwN | apply bw1 | refine bwS ?_ GE212.out) | exact HB.out)))); have n7_ := Aside0.mk (Kd.R_lower (Kd.R_new' ho2 (Kd.R_lt (by (with_reducible repeat (first | apply Kd.R_alloc | apply Kd.R_drewN | apply Kd.R_drew)); exact (Kd.R_mono (Kd.R_far (p := ⟨gb212, 9, none⟩) (Kd.R_far (p := ⟨gb212, 8, none⟩) (Kd.R_far (p := ⟨gb212, 7, none⟩) (Kd.R_far (p := ⟨gb212, 6, none⟩) (Kd.R_far (p := ⟨gb212, 5, none⟩) (Kd.R_far (p := ⟨gb212, 4, none⟩) (Kd.R_far (p := ⟨gb212, 3, none⟩) (Kd.R_far (p := ⟨gb212, 2, none⟩) (Kd.R_far (p := ⟨gb212, 1, none⟩) (Kd.R_far (p := ⟨gb212, 0, none⟩) (Kd.R_types HO206.out BK212.out (by decide)) (fun _ hk => hk.2) (.int .i64 t192)) (fun _ hk => hk.2) (.int .i64 t193)) (fun _ hk => hk.2) (.int .i64 t194)) (fun _ hk => hk.2) (.int .i64 t195)) (fun _ hk => hk.2) (.int .i64 t196)) (fun _ hk => hk.2) (.int .i64 t197)) (fun _ hk => hk.2) (.slice Ao20 t198.length co20)) (fun _ hk => hk.2) (.slice Ao21 t201.length co21)) (fun _ hk => hk.2) (.slice Ao22 t204.length co22)) (fun _ hk => hk.2) (.slice Ao23 t207.length co23)) (fun _ h_ => h_.1))))) (below_size (by repeat (first | (with_reducible first | exact HB.out | apply bwA | apply bwN | apply bw1 | refine bwS ?_ GE212.out) | exact HB.out)))); have n8_ := Aside0.mk (Kd.R_lower (Kd.R_new' ho3 (Kd.R_lt (by (with_reducible repeat (first | apply Kd.R_alloc | apply Kd.R_drewN | apply Kd.R_drew)); exact (Kd.R_mono (Kd.R_far (p := ⟨gb212, 9, none⟩) (Kd.R_far (p := ⟨gb212, 8, none⟩) (Kd.R_far (p := ⟨gb212, 7, none⟩) (Kd.R_far (p := ⟨gb212, 6, none⟩) (Kd.R_far (p := ⟨gb212, 5, none⟩) (Kd.R_far (p := ⟨gb212, 4, none⟩) (Kd.R_far (p := ⟨gb212, 3, none⟩) (Kd.R_far (p := ⟨gb212, 2, none⟩) (Kd.R_far (p := ⟨gb212, 1, none⟩) (Kd.R_far (p := ⟨gb212, 0, none⟩) (Kd.R_types HO209.out BK212.out (by decide)) (fun _ hk => hk.2) (.int .i64 t192)) (fun _ hk => hk.2) (.int .i64 t193)) (fun _ hk => hk.2) (.int .i64 t194)) (fun _ hk => hk.2) (.int .i64 t195)) (fun _ hk => hk.2) (.int .i64 t196)) (fun _ hk => hk.2) (.int .i64 t197)) (fun _ hk => hk.2) (.slice Ao20 t198.length co20)) (fun _ hk => hk.2) (.slice Ao21 t201.length co21)) (fun _ hk => hk.2) (.slice Ao22 t204.length co22)) (fun _ hk => hk.2) (.slice Ao23 t207.length co23)) (fun _ h_ => h_.1))))) (below_size (by repeat (first | (with_reducible first | exact HB.out | apply bwA | apply bwN | apply bw1 | refine bwS ?_ GE212.out) | exact HB.out)))); have n9_ := Aside0.mk (blk_below (g := gb212) (o := .cells #[.int .i64 t192, .int .i64 t193, .int .i64 t194, .int .i64 t195, .int .i64 t196, .int .i64 t197, .slice Ao20 t198.length co20, .slice Ao21 t201.length co21, .slice Ao22 t204.length co22, .slice Ao23 t207.length co23] 30 (0, 0)) (by (with_reducible repeat (first | refine blk_drewN ?_ _ | refine blk_drew ?_ | refine blk_alloc ?_ _)); refine blk_put (cs := #[.int .i64 t192, .int .i64 t193, .int .i64 t194, .int .i64 t195, .int .i64 t196, .int .i64 t197, .slice Ao20 t198.length co20, .slice Ao21 t201.length co21, .slice Ao22 t204.length co22, .slice none 0 0]) ?_ 9 _ rfl; (with_reducible repeat (first | refine blk_drewN ?_ _ | refine blk_drew ?_ | refine blk_alloc ?_ _)); refine blk_put (cs := #[.int .i64 t192, .int .i64 t193, .int .i64 t194, .int .i64 t195, .int .i64 t196, .int .i64 t197, .slice Ao20 t198.length co20, .slice Ao21 t201.length co21, .slice none 0 0, .slice none 0 0]) ?_ 8 _ rfl; (with_reducible repeat (first | refine blk_drewN ?_ _ | refine blk_drew ?_ | refine blk_alloc ?_ _)); refine blk_put (cs := #[.int .i64 t192, .int .i64 t193, .int .i64 t194, .int .i64 t195, .int .i64 t196, .int .i64 t197, .slice Ao20 t198.length co20, .slice none 0 0, .slice none 0 0, .slice none 0 0]) ?_ 7 _ rfl; (with_reducible repeat (first | refine blk_drewN ?_ _ | refine blk_drew ?_ | refine blk_alloc ?_ _)); refine blk_put (cs := #[.int .i64 t192, .int .i64 t193, .int .i64 t194, .int .i64 t195, .int .i64 t196, .int .i64 t197, .slice none 0 0, .slice none 0 0, .slice none 0 0, .slice none 0 0]) ?_ 6 _ rfl; (with_reducible repeat (first | refine blk_drewN ?_ _ | refine blk_drew ?_ | refine blk_alloc ?_ _)); refine blk_put (cs := #[.int .i64 t192, .int .i64 t193, .int .i64 t194, .int .i64 t195, .int .i64 t196, .int .i64 0, .slice none 0 0, .slice none 0 0, .slice none 0 0, .slice none 0 0]) ?_ 5 _ rfl; (with_reducible repeat (first | refine blk_drewN ?_ _ | refine blk_drew ?_ | refine blk_alloc ?_ _)); refine blk_put (cs := #[.int .i64 t192, .int .i64 t193, .int .i64 t194, .int .i64 t195, .int .i64 0, .int .i64 0, .slice none 0 0, .slice none 0 0, .slice none 0 0, .slice none 0 0]) ?_ 4 _ rfl; (with_reducible repeat (first | refine blk_drewN ?_ _ | refine blk_drew ?_ | refine blk_alloc ?_ _)); refine blk_put (cs := #[.int .i64 t192, .int .i64 t193, .int .i64 t194, .int .i64 0, .int .i64 0, .int .i64 0, .slice none 0 0, .slice none 0 0, .slice none 0 0, .slice none 0 0]) ?_ 3 _ rfl; (with_reducible repeat (first | refine blk_drewN ?_ _ | refine blk_drew ?_ | refine blk_alloc ?_ _)); refine blk_put (cs := #[.int .i64 t192, .int .i64 t193, .int .i64 0, .int .i64 0, .int .i64 0, .int .i64 0, .slice none 0 0, .slice none 0 0, .slice none 0 0, .slice none 0 0]) ?_ 2 _ rfl; (with_reducible repeat (first | refine blk_drewN ?_ _ | refine blk_drew ?_ | refine blk_alloc ?_ _)); refine blk_put (cs := #[.int .i64 t192, .int .i64 0, .int .i64 0, .int .i64 0, .int .i64 0, .int .i64 0, .slice none 0 0, .slice none 0 0, .slice none 0 0, .slice none 0 0]) ?_ 1 _ rfl; (with_reducible repeat (first | refine blk_drewN ?_ _ | refine blk_drew ?_ | refine blk_alloc ?_ _)); refine blk_put (cs := #[.int .i64 0, .int .i64 0, .int .i64 0, .int .i64 0, .int .i64 0, .int .i64 0, .slice none 0 0, .slice none 0 0, .slice none 0 0, .slice none 0 0]) ?_ 0 _ rfl; (with_reducible repeat (first | refine blk_drewN ?_ _ | refine blk_drew ?_ | refine blk_alloc ?_ _)); exact BK212.out) hb); have n10_ := Aside0.mk (below_step (by repeat (first | (with_reducible first | exact HB.out | apply bwA | apply bwN | apply bw1 | refine bwS ?_ GE212.out) | exact HB.out)) hb); clear HO191; clear HO200; clear HO203; clear HO206; clear HO209; clear BK212; clear HB; have HO191 := n0_; have HO200 := n1_; have HO203 := n2_; have HO206 := n3_; have HO209 := n4_; have HO221 := n5_; have HO224 := n6_; have HO227 := n7_; have HO230 := n8_; have BK212 := n9_; have HB := n10_; clear n0_ n1_ n2_ n3_ n4_ n5_ n6_ n7_ n8_ n9_ n10_; (try clear hb); (try clear hb2); (try clear hk); (try clear hi); (try clear ho0); (try clear ho1); (try clear ho2); (try clear ho3)) | ((with_reducible refine gate_dst (N := 6) rfl ?_); refine box_event ?hg (N := 6) ?hd (cs := #[.int .i64 0, .int .i64 0, .int .i64 0, .int .i64 0, .int .i64 0, .int .i64 0, .slice none 0 0, .slice none 0 0, .slice none 0 0, .slice none 0 0]) (t := 34) ?hr ?_; (case hd => rfl); (case hg => rfl); (case hr => first | (go_simp; done) | (go_simp; rfl)); intro gb233 hg w25 hbox hb; have n0_ := Aside0.mk (Kd.R_below (by (with_reducible repeat (first | apply Kd.R_alloc | apply Kd.R_drewN | apply Kd.R_drew)); exact HO191.out) hb); have n1_ := Aside0.mk (Kd.R_below (by (with_reducible repeat (first | apply Kd.R_alloc | apply Kd.R_drewN | apply Kd.R_drew)); exact HO200.out) hb); have n2_ := Aside0.mk (Kd.R_below (by (with_reducible repeat (first | apply Kd.R_alloc | apply Kd.R_drewN | apply Kd.R_drew)); exact HO203.out) hb); have n3_ := Aside0.mk (Kd.R_below (by (with_reducible repeat (first | apply Kd.R_alloc | apply Kd.R_drewN | apply Kd.R_drew)); exact HO206.out) hb); have n4_ := Aside0.mk (Kd.R_below (by (with_reducible repeat (first | apply Kd.R_alloc | apply Kd.R_drewN | apply Kd.R_drew)); exact HO209.out) hb); have n5_ := Aside0.mk (Kd.R_below (by (with_reducible repeat (first | apply Kd.R_alloc | apply Kd.R_drewN | apply Kd.R_drew)); exact HO221.out) hb); have n6_ := Aside0.mk (Kd.R_below (by (with_reducible repeat (first | apply Kd.R_alloc | apply Kd.R_drewN | apply Kd.R_drew)); exact HO224.out) hb); have n7_ := Aside0.mk (Kd.R_below (by (with_reducible repeat (first | apply Kd.R_alloc | apply Kd.R_drewN | apply Kd.R_drew)); exact HO227.out) hb); have n8_ := Aside0.mk (Kd.R_below (by (with_reducible repeat (first | apply Kd.R_alloc | apply Kd.R_drewN | apply Kd.R_drew)); exact HO230.out) hb); have n9_ := Aside0.mk (blk_below (g := gb212) (o := .cells #[.int .i64 t192, .int .i64 t193, .int .i64 t194, .int .i64 t195, .int .i64 t196, .int .i64 t197, .slice Ao20 t198.length co20, .slice Ao21 t201.length co21, .slice Ao22 t204.length co22, .slice Ao23 t207.length co23] 30 (0, 0)) (by (with_reducible repeat (first | refine blk_drewN ?_ _ | refine blk_drew ?_ | refine blk_alloc ?_ _)); exact BK212.out) hb); have n10_ := Aside0.mk (below_step (by repeat (first | (with_reducible first | exact HB.out | apply bwA | apply bwN | apply bw1 | refine bwS ?_ GE212.out) | exact HB.out)) hb); have n11_ := Aside0.mk (hbox); have n12_ := Aside0.mk ((by rw [hg]; exact (below_size (by repeat (first | (with_reducible first | exact HB.out | apply bwA | apply bwN | apply bw1 | refine bwS ?_ GE212.out) | exact HB.out))) : w.heap.size ≤ gb233)); have n13_ := Aside0.mk ((by rw [hg]; exact (below_size (by repeat (first | (with_reducible first | exact HB.out | apply bwA | apply bwN | apply bw1 | refine bwS ?_ GE212.out) | exact HB.out))) : w.heap.size ≤ gb233)); have n14_ := Aside0.mk ((by rw [hg]; exact Nat.ne_of_lt (blk_lt (g := gb212) (o := .cells #[.int .i64 t192, .int .i64 t193, .int .i64 t194, .int .i64 t195, .int .i64 t196, .int .i64 t197, .slice Ao20 t198.length co20, .slice Ao21 t201.length co21, .slice Ao22 t204.length co22, .slice Ao23 t207.length co23] 30 (0, 0)) (by (with_reducible repeat (first | refine blk_drewN ?_ _ | refine blk_drew ?_ | refine blk_alloc ?_ _)); exact BK212.out)) : gb212 ≠ gb233)); have n15_ := Aside0.mk ((by rw [hg]; exact Nat.ne_of_gt (blk_lt (g := gb212) (o := .cells #[.int .i64 t192, .int .i64 t193, .int .i64 t194, .int .i64 t195, .int .i64 t196, .int .i64 t197, .slice Ao20 t198.length co20, .slice Ao21 t201.length co21, .slice Ao22 t204.length co22, .slice Ao23 t207.length co23] 30 (0, 0)) (by (with_reducible repeat (first | refine blk_drewN ?_ _ | refine blk_drew ?_ | refine blk_alloc ?_ _)); exact BK212.out)) : gb233 ≠ gb212)); clear HO191; clear HO200; clear HO203; clear HO206; clear HO209; clear HO221; clear HO224; clear HO227; clear HO230; clear BK212; clear HB; have HO191 := n0_; have HO200 := n1_; have HO203 := n2_; have HO206 := n3_; have HO209 := n4_; have HO221 := n5_; have HO224 := n6_; have HO227 := n7_; have HO230 := n8_; have BK212 := n9_; have HB := n10_; have BK233 := n11_; have GW233 := n12_; have GE233 := n13_; have NB212_233 := n14_; have NB233_212 := n15_; clear n0_ n1_ n2_ n3_ n4_ n5_ n6_ n7_ n8_ n9_ n10_ n11_ n12_ n13_ n14_ n15_; clear hb hbox hg; have hnb26 := NB233_212.out; have hnc26 := NB212_233.out; obtain ⟨hcz27_0, hcz27_1, hcz27_2, hcz27_3, hcz27_4, hcz27_5, hcz27_6, hcz27_7, hcz27_8, hcz27_9, hfz27_0, hfz27_1, hfz27_2, hfz27_3, hfz27_4, hfz27_5, hfz27_6, hfz27_7, hfz27_8, hfz27_9⟩ := cf10 BK233.out; obtain ⟨Ao28, co28, eo28⟩ := Kd.R_slice HO221.out; subst eo28; obtain ⟨Ao29, co29, eo29⟩ := Kd.R_slice HO224.out; subst eo29; obtain ⟨Ao30, co30, eo30⟩ := Kd.R_slice HO227.out; subst eo30; obtain ⟨Ao31, co31, eo31⟩ := Kd.R_slice HO230.out; subst eo31; obtain ⟨hcz32_0, hcz32_1, hcz32_2, hcz32_3, hcz32_4, hcz32_5, hcz32_6, hcz32_7, hcz32_8, hcz32_9, hfz32_0, hfz32_1, hfz32_2, hfz32_3, hfz32_4, hfz32_5, hfz32_6, hfz32_7, hfz32_8, hfz32_9⟩ := cf10 BK212.out) | (go_at_call 12; (with_reducible refine (quarrellaw20_same.calls k t192 t193 t194 t195 t196 t197 _ _ t198 _ _ t201 _ _ t204 _ _ t207 t213 t214 t215 t216 t217 t218 _ _ t219 _ _ t222 _ _ t225 _ _ t228 t234 _ ?side1 ?side2 ?side3 ?side4 ?side5 ?side6 ?side7 ?side8 ?side9 ?side10 ?side11 ?side12 ?side13 ?side14 ?side15 ?side16 A11.out).mono ?_); (case side1 => refine (Kd.R_reads' (e := 2) (base := w.heap.size) (ok := fun k_ => (True ∧ some k_ ≠ (.slice Ao28 t219.length co28 : Value).ownBlock)) (n := t198.length) (c := co20) ?_).2.2; exact (by (with_reducible repeat (first | apply Kd.R_alloc | apply Kd.R_drewN | apply Kd.R_drew)); exact (Kd.R_mono (Kd.R_far (p := ⟨gb233, 9, none⟩) (Kd.R_far (p := ⟨gb233, 8, none⟩) (Kd.R_far (p := ⟨gb233, 7, none⟩) (Kd.R_far (p := ⟨gb233, 6, none⟩) (Kd.R_far (p := ⟨gb233, 5, none⟩) (Kd.R_far (p := ⟨gb233, 4, none⟩) (Kd.R_far (p := ⟨gb233, 3, none⟩) (Kd.R_far (p := ⟨gb233, 2, none⟩) (Kd.R_far (p := ⟨gb233, 1, none⟩) (Kd.R_far (p := ⟨gb233, 0, none⟩) (Kd.R_types HO200.out BK233.out (by decide)) (fun _ hk => hk.2) (.int .i64 t213)) (fun _ hk => hk.2) (.int .i64 t214)) (fun _ hk => hk.2) (.int .i64 t215)) (fun _ hk => hk.2) (.int .i64 t216)) (fun _ hk => hk.2) (.int .i64 t217)) (fun _ hk => hk.2) (.int .i64 t218)) (fun _ hk => hk.2) (.slice Ao28 t219.length co28)) (fun _ hk => hk.2) (.slice Ao29 t222.length co29)) (fun _ hk => hk.2) (.slice Ao30 t225.length co30)) (fun _ hk => hk.2) (.slice Ao31 t228.length co31)) (fun _ h_ => h_.1)))); (case side2 => exact (Kd.R_reads' HO200.out).2.1); (case side3 => refine (Kd.R_reads' (e := 5) (base := w.heap.size) (ok := fun k_ => ((True ∧ some k_ ≠ (.slice Ao16 y189.length co16 : Value).ownBlock) ∧ some k_ ≠ (.slice Ao29 t222.length co29 : Value).ownBlock)) (n := t201.length) (c := co21) ?_).2.2; exact (by (with_reducible repeat (first | apply Kd.R_alloc | apply Kd.R_drewN | apply Kd.R_drew)); exact (Kd.R_mono (Kd.R_far (p := ⟨gb233, 9, none⟩) (Kd.R_far (p := ⟨gb233, 8, none⟩) (Kd.R_far (p := ⟨gb233, 7, none⟩) (Kd.R_far (p := ⟨gb233, 6, none⟩) (Kd.R_far (p := ⟨gb233, 5, none⟩) (Kd.R_far (p := ⟨gb233, 4, none⟩) (Kd.R_far (p := ⟨gb233, 3, none⟩) (Kd.R_far (p := ⟨gb233, 2, none⟩) (Kd.R_far (p := ⟨gb233, 1, none⟩) (Kd.R_far (p := ⟨gb233, 0, none⟩) (Kd.R_types HO203.out BK233.out (by decide)) (fun _ hk => hk.2) (.int .i64 t213)) (fun _ hk => hk.2) (.int .i64 t214)) (fun _ hk => hk.2) (.int .i64 t215)) (fun _ hk => hk.2) (.int .i64 t216)) (fun _ hk => hk.2) (.int .i64 t217)) (fun _ hk => hk.2) (.int .i64 t218)) (fun _ hk => hk.2) (.slice Ao28 t219.length co28)) (fun _ hk => hk.2) (.slice Ao29 t222.length co29)) (fun _ hk => hk.2) (.slice Ao30 t225.length co30)) (fun _ hk => hk.2) (.slice Ao31 t228.length co31)) (fun _ h_ => h_.1)))); (case side4 => exact (Kd.R_reads' HO203.out).2.1); (case side5 => refine (Kd.R_reads' (e := 60) (base := w.heap.size) (ok := fun k_ => (True ∧ some k_ ≠ (.slice Ao30 t225.length co30 : Value).ownBlock)) (n := t204.length) (c := co22) ?_).2.2; exact (by (with_reducible repeat (first | apply Kd.R_alloc | apply Kd.R_drewN | apply Kd.R_drew)); exact (Kd.R_mono (Kd.R_far (p := ⟨gb233, 9, none⟩) (Kd.R_far (p := ⟨gb233, 8, none⟩) (Kd.R_far (p := ⟨gb233, 7, none⟩) (Kd.R_far (p := ⟨gb233, 6, none⟩) (Kd.R_far (p := ⟨gb233, 5, none⟩) (Kd.R_far (p := ⟨gb233, 4, none⟩) (Kd.R_far (p := ⟨gb233, 3, none⟩) (Kd.R_far (p := ⟨gb233, 2, none⟩) (Kd.R_far (p := ⟨gb233, 1, none⟩) (Kd.R_far (p := ⟨gb233, 0, none⟩) (Kd.R_types HO206.out BK233.out (by decide)) (fun _ hk => hk.2) (.int .i64 t213)) (fun _ hk => hk.2) (.int .i64 t214)) (fun _ hk => hk.2) (.int .i64 t215)) (fun _ hk => hk.2) (.int .i64 t216)) (fun _ hk => hk.2) (.int .i64 t217)) (fun _ hk => hk.2) (.int .i64 t218)) (fun _ hk => hk.2) (.slice Ao28 t219.length co28)) (fun _ hk => hk.2) (.slice Ao29 t222.length co29)) (fun _ hk => hk.2) (.slice Ao30 t225.length co30)) (fun _ hk => hk.2) (.slice Ao31 t228.length co31)) (fun _ h_ => h_.1)))); (case side6 => exact (Kd.R_reads' HO206.out).2.1); (case side7 => refine (Kd.R_reads' (e := 3) (base := w.heap.size) (ok := fun k_ => (True ∧ some k_ ≠ (.slice Ao31 t228.length co31 : Value).ownBlock)) (n := t207.length) (c := co23) ?_).2.2; exact (by (with_reducible repeat (first | apply Kd.R_alloc | apply Kd.R_drewN | apply Kd.R_drew)); exact (Kd.R_mono (Kd.R_far (p := ⟨gb233, 9, none⟩) (Kd.R_far (p := ⟨gb233, 8, none⟩) (Kd.R_far (p := ⟨gb233, 7, none⟩) (Kd.R_far (p := ⟨gb233, 6, none⟩) (Kd.R_far (p := ⟨gb233, 5, none⟩) (Kd.R_far (p := ⟨gb233, 4, none⟩) (Kd.R_far (p := ⟨gb233, 3, none⟩) (Kd.R_far (p := ⟨gb233, 2, none⟩) (Kd.R_far (p := ⟨gb233, 1, none⟩) (Kd.R_far (p := ⟨gb233, 0, none⟩) (Kd.R_types HO209.out BK233.out (by decide)) (fun _ hk => hk.2) (.int .i64 t213)) (fun _ hk => hk.2) (.int .i64 t214)) (fun _ hk => hk.2) (.int .i64 t215)) (fun _ hk => hk.2) (.int .i64 t216)) (fun _ hk => hk.2) (.int .i64 t217)) (fun _ hk => hk.2) (.int .i64 t218)) (fun _ hk => hk.2) (.slice Ao28 t219.length co28)) (fun _ hk => hk.2) (.slice Ao29 t222.length co29)) (fun _ hk => hk.2) (.slice Ao30 t225.length co30)) (fun _ hk => hk.2) (.slice Ao31 t228.length co31)) (fun _ h_ => h_.1)))); (case side8 => exact (Kd.R_reads' HO209.out).2.1); (case side9 => refine (Kd.R_reads' (e := 2) (base := w.heap.size) (ok := fun k_ => (True ∧ some k_ ≠ (.slice Ao20 t198.length co20 : Value).ownBlock)) (n := t219.length) (c := co28) ?_).2.2; exact (by (with_reducible repeat (first | apply Kd.R_alloc | apply Kd.R_drewN | apply Kd.R_drew)); exact (Kd.R_mono (Kd.R_far (p := ⟨gb233, 9, none⟩) (Kd.R_far (p := ⟨gb233, 8, none⟩) (Kd.R_far (p := ⟨gb233, 7, none⟩) (Kd.R_far (p := ⟨gb233, 6, none⟩) (Kd.R_far (p := ⟨gb233, 5, none⟩) (Kd.R_far (p := ⟨gb233, 4, none⟩) (Kd.R_far (p := ⟨gb233, 3, none⟩) (Kd.R_far (p := ⟨gb233, 2, none⟩) (Kd.R_far (p := ⟨gb233, 1, none⟩) (Kd.R_far (p := ⟨gb233, 0, none⟩) (Kd.R_types HO221.out BK233.out (by decide)) (fun _ hk => hk.2) (.int .i64 t213)) (fun _ hk => hk.2) (.int .i64 t214)) (fun _ hk => hk.2) (.int .i64 t215)) (fun _ hk => hk.2) (.int .i64 t216)) (fun _ hk => hk.2) (.int .i64 t217)) (fun _ hk => hk.2) (.int .i64 t218)) (fun _ hk => hk.2) (.slice Ao28 t219.length co28)) (fun _ hk => hk.2) (.slice Ao29 t222.length co29)) (fun _ hk => hk.2) (.slice Ao30 t225.length co30)) (fun _ hk => hk.2) (.slice Ao31 t228.length co31)) (fun _ h_ => h_.1)))); (case side10 => exact (Kd.R_reads' HO221.out).2.1); (case side11 => refine (Kd.R_reads' (e := 5) (base := w.heap.size) (ok := fun k_ => ((True ∧ some k_ ≠ (.slice Ao16 y189.length co16 : Value).ownBlock) ∧ some k_ ≠ (.slice Ao21 t201.length co21 : Value).ownBlock)) (n := t222.length) (c := co29) ?_).2.2; exact (by (with_reducible repeat (first | apply Kd.R_alloc | apply Kd.R_drewN | apply Kd.R_drew)); exact (Kd.R_mono (Kd.R_far (p := ⟨gb233, 9, none⟩) (Kd.R_far (p := ⟨gb233, 8, none⟩) (Kd.R_far (p := ⟨gb233, 7, none⟩) (Kd.R_far (p := ⟨gb233, 6, none⟩) (Kd.R_far (p := ⟨gb233, 5, none⟩) (Kd.R_far (p := ⟨gb233, 4, none⟩) (Kd.R_far (p := ⟨gb233, 3, none⟩) (Kd.R_far (p := ⟨gb233, 2, none⟩) (Kd.R_far (p := ⟨gb233, 1, none⟩) (Kd.R_far (p := ⟨gb233, 0, none⟩) (Kd.R_types HO224.out BK233.out (by decide)) (fun _ hk => hk.2) (.int .i64 t213)) (fun _ hk => hk.2) (.int .i64 t214)) (fun _ hk => hk.2) (.int .i64 t215)) (fun _ hk => hk.2) (.int .i64 t216)) (fun _ hk => hk.2) (.int .i64 t217)) (fun _ hk => hk.2) (.int .i64 t218)) (fun _ hk => hk.2) (.slice Ao28 t219.length co28)) (fun _ hk => hk.2) (.slice Ao29 t222.length co29)) (fun _ hk => hk.2) (.slice Ao30 t225.length co30)) (fun _ hk => hk.2) (.slice Ao31 t228.length co31)) (fun _ h_ => h_.1)))); (case side12 => exact (Kd.R_reads' HO224.out).2.1); (case side13 => refine (Kd.R_reads' (e := 60) (base := w.heap.size) (ok := fun k_ => (True ∧ some k_ ≠ (.slice Ao22 t204.length co22 : Value).ownBlock)) (n := t225.length) (c := co30) ?_).2.2; exact (by (with_reducible repeat (first | apply Kd.R_alloc | apply Kd.R_drewN | apply Kd.R_drew)); exact (Kd.R_mono (Kd.R_far (p := ⟨gb233, 9, none⟩) (Kd.R_far (p := ⟨gb233, 8, none⟩) (Kd.R_far (p := ⟨gb233, 7, none⟩) (Kd.R_far (p := ⟨gb233, 6, none⟩) (Kd.R_far (p := ⟨gb233, 5, none⟩) (Kd.R_far (p := ⟨gb233, 4, none⟩) (Kd.R_far (p := ⟨gb233, 3, none⟩) (Kd.R_far (p := ⟨gb233, 2, none⟩) (Kd.R_far (p := ⟨gb233, 1, none⟩) (Kd.R_far (p := ⟨gb233, 0, none⟩) (Kd.R_types HO227.out BK233.out (by decide)) (fun _ hk => hk.2) (.int .i64 t213)) (fun _ hk => hk.2) (.int .i64 t214)) (fun _ hk => hk.2) (.int .i64 t215)) (fun _ hk => hk.2) (.int .i64 t216)) (fun _ hk => hk.2) (.int .i64 t217)) (fun _ hk => hk.2) (.int .i64 t218)) (fun _ hk => hk.2) (.slice Ao28 t219.length co28)) (fun _ hk => hk.2) (.slice Ao29 t222.length co29)) (fun _ hk => hk.2) (.slice Ao30 t225.length co30)) (fun _ hk => hk.2) (.slice Ao31 t228.length co31)) (fun _ h_ => h_.1)))); (case side14 => exact (Kd.R_reads' HO227.out).2.1); (case side15 => refine (Kd.R_reads' (e := 3) (base := w.heap.size) (ok := fun k_ => (True ∧ some k_ ≠ (.slice Ao23 t207.length co23 : Value).ownBlock)) (n := t228.length) (c := co31) ?_).2.2; exact (by (with_reducible repeat (first | apply Kd.R_alloc | apply Kd.R_drewN | apply Kd.R_drew)); exact (Kd.R_mono (Kd.R_far (p := ⟨gb233, 9, none⟩) (Kd.R_far (p := ⟨gb233, 8, none⟩) (Kd.R_far (p := ⟨gb233, 7, none⟩) (Kd.R_far (p := ⟨gb233, 6, none⟩) (Kd.R_far (p := ⟨gb233, 5, none⟩) (Kd.R_far (p := ⟨gb233, 4, none⟩) (Kd.R_far (p := ⟨gb233, 3, none⟩) (Kd.R_far (p := ⟨gb233, 2, none⟩) (Kd.R_far (p := ⟨gb233, 1, none⟩) (Kd.R_far (p := ⟨gb233, 0, none⟩) (Kd.R_types HO230.out BK233.out (by decide)) (fun _ hk => hk.2) (.int .i64 t213)) (fun _ hk => hk.2) (.int .i64 t214)) (fun _ hk => hk.2) (.int .i64 t215)) (fun _ hk => hk.2) (.int .i64 t216)) (fun _ hk => hk.2) (.int .i64 t217)) (fun _ hk => hk.2) (.int .i64 t218)) (fun _ hk => hk.2) (.slice Ao28 t219.length co28)) (fun _ hk => hk.2) (.slice Ao29 t222.length co29)) (fun _ hk => hk.2) (.slice Ao30 t225.length co30)) (fun _ hk => hk.2) (.slice Ao31 t228.length co31)) (fun _ h_ => h_.1)))); (case side16 => exact (Kd.R_reads' HO230.out).2.1); rintro e w33 ⟨rfl, hb⟩; have n0_ := Aside0.mk (Kd.R_below (by (with_reducible repeat (first | apply Kd.R_alloc | apply Kd.R_drewN | apply Kd.R_drew)); exact (Kd.R_mono (Kd.R_far (p := ⟨gb233, 9, none⟩) (Kd.R_far (p := ⟨gb233, 8, none⟩) (Kd.R_far (p := ⟨gb233, 7, none⟩) (Kd.R_far (p := ⟨gb233, 6, none⟩) (Kd.R_far (p := ⟨gb233, 5, none⟩) (Kd.R_far (p := ⟨gb233, 4, none⟩) (Kd.R_far (p := ⟨gb233, 3, none⟩) (Kd.R_far (p := ⟨gb233, 2, none⟩) (Kd.R_far (p := ⟨gb233, 1, none⟩) (Kd.R_far (p := ⟨gb233, 0, none⟩) (Kd.R_types HO191.out BK233.out (by decide)) (fun _ hk => hk.2) (.int .i64 t213)) (fun _ hk => hk.2) (.int .i64 t214)) (fun _ hk => hk.2) (.int .i64 t215)) (fun _ hk => hk.2) (.int .i64 t216)) (fun _ hk => hk.2) (.int .i64 t217)) (fun _ hk => hk.2) (.int .i64 t218)) (fun _ hk => hk.2) (.slice Ao28 t219.length co28)) (fun _ hk => hk.2) (.slice Ao29 t222.length co29)) (fun _ hk => hk.2) (.slice Ao30 t225.length co30)) (fun _ hk => hk.2) (.slice Ao31 t228.length co31)) (fun _ h_ => h_.1))) hb); have n1_ := Aside0.mk (Kd.R_below (by (with_reducible repeat (first | apply Kd.R_alloc | apply Kd.R_drewN | apply Kd.R_drew)); exact (Kd.R_mono (Kd.R_far (p := ⟨gb233, 9, none⟩) (Kd.R_far (p := ⟨gb233, 8, none⟩) (Kd.R_far (p := ⟨gb233, 7, none⟩) (Kd.R_far (p := ⟨gb233, 6, none⟩) (Kd.R_far (p := ⟨gb233, 5, none⟩) (Kd.R_far (p := ⟨gb233, 4, none⟩) (Kd.R_far (p := ⟨gb233, 3, none⟩) (Kd.R_far (p := ⟨gb233, 2, none⟩) (Kd.R_far (p := ⟨gb233, 1, none⟩) (Kd.R_far (p := ⟨gb233, 0, none⟩) (Kd.R_types HO200.out BK233.out (by decide)) (fun _ hk => hk.2) (.int .i64 t213)) (fun _ hk => hk.2) (.int .i64 t214)) (fun _ hk => hk.2) (.int .i64 t215)) (fun _ hk => hk.2) (.int .i64 t216)) (fun _ hk => hk.2) (.int .i64 t217)) (fun _ hk => hk.2) (.int .i64 t218)) (fun _ hk => hk.2) (.slice Ao28 t219.length co28)) (fun _ hk => hk.2) (.slice Ao29 t222.length co29)) (fun _ hk => hk.2) (.slice Ao30 t225.length co30)) (fun _ hk => hk.2) (.slice Ao31 t228.length co31)) (fun _ h_ => h_.1))) hb); have n2_ := Aside0.mk (Kd.R_below (by (with_reducible repeat (first | apply Kd.R_alloc | apply Kd.R_drewN | apply Kd.R_drew)); exact (Kd.R_mono (Kd.R_far (p := ⟨gb233, 9, none⟩) (Kd.R_far (p := ⟨gb233, 8, none⟩) (Kd.R_far (p := ⟨gb233, 7, none⟩) (Kd.R_far (p := ⟨gb233, 6, none⟩) (Kd.R_far (p := ⟨gb233, 5, none⟩) (Kd.R_far (p := ⟨gb233, 4, none⟩) (Kd.R_far (p := ⟨gb233, 3, none⟩) (Kd.R_far (p := ⟨gb233, 2, none⟩) (Kd.R_far (p := ⟨gb233, 1, none⟩) (Kd.R_far (p := ⟨gb233, 0, none⟩) (Kd.R_types HO203.out BK233.out (by decide)) (fun _ hk => hk.2) (.int .i64 t213)) (fun _ hk => hk.2) (.int .i64 t214)) (fun _ hk => hk.2) (.int .i64 t215)) (fun _ hk => hk.2) (.int .i64 t216)) (fun _ hk => hk.2) (.int .i64 t217)) (fun _ hk => hk.2) (.int .i64 t218)) (fun _ hk => hk.2) (.slice Ao28 t219.length co28)) (fun _ hk => hk.2) (.slice Ao29 t222.length co29)) (fun _ hk => hk.2) (.slice Ao30 t225.length co30)) (fun _ hk => hk.2) (.slice Ao31 t228.length co31)) (fun _ h_ => h_.1))) hb); have n3_ := Aside0.mk (Kd.R_below (by (with_reducible repeat (first | apply Kd.R_alloc | apply Kd.R_drewN | apply Kd.R_drew)); exact (Kd.R_mono (Kd.R_far (p := ⟨gb233, 9, none⟩) (Kd.R_far (p := ⟨gb233, 8, none⟩) (Kd.R_far (p := ⟨gb233, 7, none⟩) (Kd.R_far (p := ⟨gb233, 6, none⟩) (Kd.R_far (p := ⟨gb233, 5, none⟩) (Kd.R_far (p := ⟨gb233, 4, none⟩) (Kd.R_far (p := ⟨gb233, 3, none⟩) (Kd.R_far (p := ⟨gb233, 2, none⟩) (Kd.R_far (p := ⟨gb233, 1, none⟩) (Kd.R_far (p := ⟨gb233, 0, none⟩) (Kd.R_types HO206.out BK233.out (by decide)) (fun _ hk => hk.2) (.int .i64 t213)) (fun _ hk => hk.2) (.int .i64 t214)) (fun _ hk => hk.2) (.int .i64 t215)) (fun _ hk => hk.2) (.int .i64 t216)) (fun _ hk => hk.2) (.int .i64 t217)) (fun _ hk => hk.2) (.int .i64 t218)) (fun _ hk => hk.2) (.slice Ao28 t219.length co28)) (fun _ hk => hk.2) (.slice Ao29 t222.length co29)) (fun _ hk => hk.2) (.slice Ao30 t225.length co30)) (fun _ hk => hk.2) (.slice Ao31 t228.length co31)) (fun _ h_ => h_.1))) hb); have n4_ := Aside0.mk (Kd.R_below (by (with_reducible repeat (first | apply Kd.R_alloc | apply Kd.R_drewN | apply Kd.R_drew)); exact (Kd.R_mono (Kd.R_far (p := ⟨gb233, 9, none⟩) (Kd.R_far (p := ⟨gb233, 8, none⟩) (Kd.R_far (p := ⟨gb233, 7, none⟩) (Kd.R_far (p := ⟨gb233, 6, none⟩) (Kd.R_far (p := ⟨gb233, 5, none⟩) (Kd.R_far (p := ⟨gb233, 4, none⟩) (Kd.R_far (p := ⟨gb233, 3, none⟩) (Kd.R_far (p := ⟨gb233, 2, none⟩) (Kd.R_far (p := ⟨gb233, 1, none⟩) (Kd.R_far (p := ⟨gb233, 0, none⟩) (Kd.R_types HO209.out BK233.out (by decide)) (fun _ hk => hk.2) (.int .i64 t213)) (fun _ hk => hk.2) (.int .i64 t214)) (fun _ hk => hk.2) (.int .i64 t215)) (fun _ hk => hk.2) (.int .i64 t216)) (fun _ hk => hk.2) (.int .i64 t217)) (fun _ hk => hk.2) (.int .i64 t218)) (fun _ hk => hk.2) (.slice Ao28 t219.length co28)) (fun _ hk => hk.2) (.slice Ao29 t222.length co29)) (fun _ hk => hk.2) (.slice Ao30 t225.length co30)) (fun _ hk => hk.2) (.slice Ao31 t228.length co31)) (fun _ h_ => h_.1))) hb); have n5_ := Aside0.mk (Kd.R_below (by (with_reducible repeat (first | apply Kd.R_alloc | apply Kd.R_drewN | apply Kd.R_drew)); exact (Kd.R_mono (Kd.R_far (p := ⟨gb233, 9, none⟩) (Kd.R_far (p := ⟨gb233, 8, none⟩) (Kd.R_far (p := ⟨gb233, 7, none⟩) (Kd.R_far (p := ⟨gb233, 6, none⟩) (Kd.R_far (p := ⟨gb233, 5, none⟩) (Kd.R_far (p := ⟨gb233, 4, none⟩) (Kd.R_far (p := ⟨gb233, 3, none⟩) (Kd.R_far (p := ⟨gb233, 2, none⟩) (Kd.R_far (p := ⟨gb233, 1, none⟩) (Kd.R_far (p := ⟨gb233, 0, none⟩) (Kd.R_types HO221.out BK233.out (by decide)) (fun _ hk => hk.2) (.int .i64 t213)) (fun _ hk => hk.2) (.int .i64 t214)) (fun _ hk => hk.2) (.int .i64 t215)) (fun _ hk => hk.2) (.int .i64 t216)) (fun _ hk => hk.2) (.int .i64 t217)) (fun _ hk => hk.2) (.int .i64 t218)) (fun _ hk => hk.2) (.slice Ao28 t219.length co28)) (fun _ hk => hk.2) (.slice Ao29 t222.length co29)) (fun _ hk => hk.2) (.slice Ao30 t225.length co30)) (fun _ hk => hk.2) (.slice Ao31 t228.length co31)) (fun _ h_ => h_.1))) hb); have n6_ := Aside0.mk (Kd.R_below (by (with_reducible repeat (first | apply Kd.R_alloc | apply Kd.R_drewN | apply Kd.R_drew)); exact (Kd.R_mono (Kd.R_far (p := ⟨gb233, 9, none⟩) (Kd.R_far (p := ⟨gb233, 8, none⟩) (Kd.R_far (p := ⟨gb233, 7, none⟩) (Kd.R_far (p := ⟨gb233, 6, none⟩) (Kd.R_far (p := ⟨gb233, 5, none⟩) (Kd.R_far (p := ⟨gb233, 4, none⟩) (Kd.R_far (p := ⟨gb233, 3, none⟩) (Kd.R_far (p := ⟨gb233, 2, none⟩) (Kd.R_far (p := ⟨gb233, 1, none⟩) (Kd.R_far (p := ⟨gb233, 0, none⟩) (Kd.R_types HO224.out BK233.out (by decide)) (fun _ hk => hk.2) (.int .i64 t213)) (fun _ hk => hk.2) (.int .i64 t214)) (fun _ hk => hk.2) (.int .i64 t215)) (fun _ hk => hk.2) (.int .i64 t216)) (fun _ hk => hk.2) (.int .i64 t217)) (fun _ hk => hk.2) (.int .i64 t218)) (fun _ hk => hk.2) (.slice Ao28 t219.length co28)) (fun _ hk => hk.2) (.slice Ao29 t222.length co29)) (fun _ hk => hk.2) (.slice Ao30 t225.length co30)) (fun _ hk => hk.2) (.slice Ao31 t228.length co31)) (fun _ h_ => h_.1))) hb); have n7_ := Aside0.mk (Kd.R_below (by (with_reducible repeat (first | apply Kd.R_alloc | apply Kd.R_drewN | apply Kd.R_drew)); exact (Kd.R_mono (Kd.R_far (p := ⟨gb233, 9, none⟩) (Kd.R_far (p := ⟨gb233, 8, none⟩) (Kd.R_far (p := ⟨gb233, 7, none⟩) (Kd.R_far (p := ⟨gb233, 6, none⟩) (Kd.R_far (p := ⟨gb233, 5, none⟩) (Kd.R_far (p := ⟨gb233, 4, none⟩) (Kd.R_far (p := ⟨gb233, 3, none⟩) (Kd.R_far (p := ⟨gb233, 2, none⟩) (Kd.R_far (p := ⟨gb233, 1, none⟩) (Kd.R_far (p := ⟨gb233, 0, none⟩) (Kd.R_types HO227.out BK233.out (by decide)) (fun _ hk => hk.2) (.int .i64 t213)) (fun _ hk => hk.2) (.int .i64 t214)) (fun _ hk => hk.2) (.int .i64 t215)) (fun _ hk => hk.2) (.int .i64 t216)) (fun _ hk => hk.2) (.int .i64 t217)) (fun _ hk => hk.2) (.int .i64 t218)) (fun _ hk => hk.2) (.slice Ao28 t219.length co28)) (fun _ hk => hk.2) (.slice Ao29 t222.length co29)) (fun _ hk => hk.2) (.slice Ao30 t225.length co30)) (fun _ hk => hk.2) (.slice Ao31 t228.length co31)) (fun _ h_ => h_.1))) hb); have n8_ := Aside0.mk (Kd.R_below (by (with_reducible repeat (first | apply Kd.R_alloc | apply Kd.R_drewN | apply Kd.R_drew)); exact (Kd.R_mono (Kd.R_far (p := ⟨gb233, 9, none⟩) (Kd.R_far (p := ⟨gb233, 8, none⟩) (Kd.R_far (p := ⟨gb233, 7, none⟩) (Kd.R_far (p := ⟨gb233, 6, none⟩) (Kd.R_far (p := ⟨gb233, 5, none⟩) (Kd.R_far (p := ⟨gb233, 4, none⟩) (Kd.R_far (p := ⟨gb233, 3, none⟩) (Kd.R_far (p := ⟨gb233, 2, none⟩) (Kd.R_far (p := ⟨gb233, 1, none⟩) (Kd.R_far (p := ⟨gb233, 0, none⟩) (Kd.R_types HO230.out BK233.out (by decide)) (fun _ hk => hk.2) (.int .i64 t213)) (fun _ hk => hk.2) (.int .i64 t214)) (fun _ hk => hk.2) (.int .i64 t215)) (fun _ hk => hk.2) (.int .i64 t216)) (fun _ hk => hk.2) (.int .i64 t217)) (fun _ hk => hk.2) (.int .i64 t218)) (fun _ hk => hk.2) (.slice Ao28 t219.length co28)) (fun _ hk => hk.2) (.slice Ao29 t222.length co29)) (fun _ hk => hk.2) (.slice Ao30 t225.length co30)) (fun _ hk => hk.2) (.slice Ao31 t228.length co31)) (fun _ h_ => h_.1))) hb); have n9_ := Aside0.mk (blk_below (g := gb212) (o := .cells #[.int .i64 t192, .int .i64 t193, .int .i64 t194, .int .i64 t195, .int .i64 t196, .int .i64 t197, .slice Ao20 t198.length co20, .slice Ao21 t201.length co21, .slice Ao22 t204.length co22, .slice Ao23 t207.length co23] 30 (0, 0)) (by (with_reducible repeat (first | refine blk_drewN ?_ _ | refine blk_drew ?_ | refine blk_alloc ?_ _)); refine blk_far ?_ NB212_233.out _; (with_reducible repeat (first | refine blk_drewN ?_ _ | refine blk_drew ?_ | refine blk_alloc ?_ _)); refine blk_far ?_ NB212_233.out _; (with_reducible repeat (first | refine blk_drewN ?_ _ | refine blk_drew ?_ | refine blk_alloc ?_ _)); refine blk_far ?_ NB212_233.out _; (with_reducible repeat (first | refine blk_drewN ?_ _ | refine blk_drew ?_ | refine blk_alloc ?_ _)); refine blk_far ?_ NB212_233.out _; (with_reducible repeat (first | refine blk_drewN ?_ _ | refine blk_drew ?_ | refine blk_alloc ?_ _)); refine blk_far ?_ NB212_233.out _; (with_reducible repeat (first | refine blk_drewN ?_ _ | refine blk_drew ?_ | refine blk_alloc ?_ _)); refine blk_far ?_ NB212_233.out _; (with_reducible repeat (first | refine blk_drewN ?_ _ | refine blk_drew ?_ | refine blk_alloc ?_ _)); refine blk_far ?_ NB212_233.out _; (with_reducible repeat (first | refine blk_drewN ?_ _ | refine blk_drew ?_ | refine blk_alloc ?_ _)); refine blk_far ?_ NB212_233.out _; (with_reducible repeat (first | refine blk_drewN ?_ _ | refine blk_drew ?_ | refine blk_alloc ?_ _)); refine blk_far ?_ NB212_233.out _; (with_reducible repeat (first | refine blk_drewN ?_ _ | refine blk_drew ?_ | refine blk_alloc ?_ _)); refine blk_far ?_ NB212_233.out _; (with_reducible repeat (first | refine blk_drewN ?_ _ | refine blk_drew ?_ | refine blk_alloc ?_ _)); exact BK212.out) hb); have n10_ := Aside0.mk (blk_below (g := gb233) (o := .cells #[.int .i64 t213, .int .i64 t214, .int .i64 t215, .int .i64 t216, .int .i64 t217, .int .i64 t218, .slice Ao28 t219.length co28, .slice Ao29 t222.length co29, .slice Ao30 t225.length co30, .slice Ao31 t228.length co31] 34 (0, 0)) (by (with_reducible repeat (first | refine blk_drewN ?_ _ | refine blk_drew ?_ | refine blk_alloc ?_ _)); refine blk_put (cs := #[.int .i64 t213, .int .i64 t214, .int .i64 t215, .int .i64 t216, .int .i64 t217, .int .i64 t218, .slice Ao28 t219.length co28, .slice Ao29 t222.length co29, .slice Ao30 t225.length co30, .slice none 0 0]) ?_ 9 _ rfl; (with_reducible repeat (first | refine blk_drewN ?_ _ | refine blk_drew ?_ | refine blk_alloc ?_ _)); refine blk_put (cs := #[.int .i64 t213, .int .i64 t214, .int .i64 t215, .int .i64 t216, .int .i64 t217, .int .i64 t218, .slice Ao28 t219.length co28, .slice Ao29 t222.length co29, .slice none 0 0, .slice none 0 0]) ?_ 8 _ rfl; (with_reducible repeat (first | refine blk_drewN ?_ _ | refine blk_drew ?_ | refine blk_alloc ?_ _)); refine blk_put (cs := #[.int .i64 t213, .int .i64 t214, .int .i64 t215, .int .i64 t216, .int .i64 t217, .int .i64 t218, .slice Ao28 t219.length co28, .slice none 0 0, .slice none 0 0, .slice none 0 0]) ?_ 7 _ rfl; (with_reducible repeat (first | refine blk_drewN ?_ _ | refine blk_drew ?_ | refine blk_alloc ?_ _)); refine blk_put (cs := #[.int .i64 t213, .int .i64 t214, .int .i64 t215, .int .i64 t216, .int .i64 t217, .int .i64 t218, .slice none 0 0, .slice none 0 0, .slice none 0 0, .slice none 0 0]) ?_ 6 _ rfl; (with_reducible repeat (first | refine blk_drewN ?_ _ | refine blk_drew ?_ | refine blk_alloc ?_ _)); refine blk_put (cs := #[.int .i64 t213, .int .i64 t214, .int .i64 t215, .int .i64 t216, .int .i64 t217, .int .i64 0, .slice none 0 0, .slice none 0 0, .slice none 0 0, .slice none 0 0]) ?_ 5 _ rfl; (with_reducible repeat (first | refine blk_drewN ?_ _ | refine blk_drew ?_ | refine blk_alloc ?_ _)); refine blk_put (cs := #[.int .i64 t213, .int .i64 t214, .int .i64 t215, .int .i64 t216, .int .i64 0, .int .i64 0, .slice none 0 0, .slice none 0 0, .slice none 0 0, .slice none 0 0]) ?_ 4 _ rfl; (with_reducible repeat (first | refine blk_drewN ?_ _ | refine blk_drew ?_ | refine blk_alloc ?_ _)); refine blk_put (cs := #[.int .i64 t213, .int .i64 t214, .int .i64 t215, .int .i64 0, .int .i64 0, .int .i64 0, .slice none 0 0, .slice none 0 0, .slice none 0 0, .slice none 0 0]) ?_ 3 _ rfl; (with_reducible repeat (first | refine blk_drewN ?_ _ | refine blk_drew ?_ | refine blk_alloc ?_ _)); refine blk_put (cs := #[.int .i64 t213, .int .i64 t214, .int .i64 0, .int .i64 0, .int .i64 0, .int .i64 0, .slice none 0 0, .slice none 0 0, .slice none 0 0, .slice none 0 0]) ?_ 2 _ rfl; (with_reducible repeat (first | refine blk_drewN ?_ _ | refine blk_drew ?_ | refine blk_alloc ?_ _)); refine blk_put (cs := #[.int .i64 t213, .int .i64 0, .int .i64 0, .int .i64 0, .int .i64 0, .int .i64 0, .slice none 0 0, .slice none 0 0, .slice none 0 0, .slice none 0 0]) ?_ 1 _ rfl; (with_reducible repeat (first | refine blk_drewN ?_ _ | refine blk_drew ?_ | refine blk_alloc ?_ _)); refine blk_put (cs := #[.int .i64 0, .int .i64 0, .int .i64 0, .int .i64 0, .int .i64 0, .int .i64 0, .slice none 0 0, .slice none 0 0, .slice none 0 0, .slice none 0 0]) ?_ 0 _ rfl; (with_reducible repeat (first | refine blk_drewN ?_ _ | refine blk_drew ?_ | refine blk_alloc ?_ _)); exact BK233.out) hb); have n11_ := Aside0.mk (below_step (by repeat (first | (with_reducible first | exact HB.out | apply bwA | apply bwN | apply bw1 | refine bwS ?_ GE212.out | refine bwS ?_ GE233.out) | exact HB.out)) hb); clear HO191; clear HO200; clear HO203; clear HO206; clear HO209; clear HO221; clear HO224; clear HO227; clear HO230; clear BK212; clear BK233; clear HB; have HO191 := n0_; have HO200 := n1_; have HO203 := n2_; have HO206 := n3_; have HO209 := n4_; have HO221 := n5_; have HO224 := n6_; have HO227 := n7_; have HO230 := n8_; have BK212 := n9_; have BK233 := n10_; have HB := n11_; clear n0_ n1_ n2_ n3_ n4_ n5_ n6_ n7_ n8_ n9_ n10_ n11_; (try clear hb); (try clear hb2); (try clear hk); (try clear hi)))
      go_ret
      exact ⟨by first | rfl | (simp [errW_none, errW_some] <;> rfl) | (simp [*, errW_none, errW_some] <;> rfl), by repeat (first | (with_reducible first | exact HB.out | apply bwA | apply bwN | apply bw1 | refine bwS ?_ GE212.out | refine bwS ?_ GE233.out) | exact HB.out)⟩
     ·rw [if_neg c10] at H
      have c10b0 : (t211 == t232) = false := beq_eq_false_iff_ne.mpr c10
      have c10b1 : (t211 != t232) = true := bne_iff_ne.mpr c10
      obtain rfl := Option.some.inj H
      go_enter Try.func3, Try.ntmps3
      go_wp2_with (first | ((with_reducible refine gate_callee (f := 9) rfl ?_); refine goesL_ (some 9) rfl rfl Try.func9 (by kernel_rfl) rfl #[] rfl (by (try simp only [List.map_toArray, List.map_cons, List.map_nil]); first | done | rfl | (simp only [List.length_drop, List.length_take]; rfl)) ?_; (with_reducible refine (quarrellaw20_alive.calls k  true _ A2.out).mono ?_); rintro e w34 ⟨rfl, hb⟩; refine ⟨_, rfl, ?_⟩; have n0_ := Aside0.mk (below_step (by repeat (first | (with_reducible first | exact HB.out | apply bwA | apply bwN | apply bw1) | exact HB.out)) hb); clear HB; have HB := n0_; clear n0_; (try clear hb); (try clear hb2); (try clear hk); (try clear hi)) | ((with_reducible refine gate_dst (N := 15) rfl ?_); refine Kd.R_lit (Kd.int .u8) _ 5 ?hg (N := 15) ?hd (xs := ([] : List Int)) (inner := []) (ok := fun _ => True) (okp := fun _ => True) ?hr ?hp (fun _ hk => hk) trivial (Below.refl _ _) (Nat.le_refl _) (by simp) ?_; (case hd => rfl); (case hg => rfl); (case hr => first | (go_simp; done) | (go_simp; rfl)); (case hp => exact (Reps.none _ _)); intro v187 w35 ho36 hb hg_ hnew_; clear hg_ hnew_; (first | rw [← Ny186.out] at ho36 | (simp only [Int.reduceToNat] at ho36; rw [← Ny186.out] at ho36)); have n0_ := Aside0.mk (Kd.R_lower ho36 (below_size (by repeat (first | (with_reducible first | exact HB.out | apply bwA | apply bwN | apply bw1) | exact HB.out)))); have n1_ := Aside0.mk (below_step (by repeat (first | (with_reducible first | exact HB.out | apply bwA | apply bwN | apply bw1) | exact HB.out)) hb); clear HB; have HO188 := n0_; have HB := n1_; clear n0_ n1_; clear hb ho36) | ((with_reducible refine gate_builtin (b := .append) (xs := #[.tmp 15, .tmp 16]) rfl ?_); at_builtin; refine Kd.R_append_rows (Kd.int .u8) (w0 := w) w.heap.size rfl (.tmp 15) (.tmp 16) 22 5 (.int .u8 0) 1 rfl Try.underlying22 info5 rfl (by decide) (by omega) v187 y186 l0 _ _ _ (fun _ => True) (fun _ => False) rfl rfl ?aO ?aR (fun _ _ h => h) (fun _ h => h.elim) ?aF ?aB ?aS ?aL ?_; (case aR => repeat (first | exact (Kd.C_below HR0.out HB.out) | (with_reducible refine Kd.C_alloc ?_ _) | (with_reducible refine Kd.C_drewN ?_ _) | (with_reducible refine Kd.C_drew ?_))); (case aB => exact (by repeat (first | (with_reducible first | exact HB.out | apply bwA | apply bwN | apply bw1) | exact HB.out))); (case aF => exact (fun _ _ => trivial)); (case aO => exact (by (with_reducible repeat (first | apply Kd.R_alloc | apply Kd.R_drewN | apply Kd.R_drew)); exact HO188.out)); (case aS => exact (below_size (by repeat (first | (with_reducible first | exact HB.out | apply bwA | apply bwN | apply bw1) | exact HB.out)))); (case aL => have := LMc6.out; omega); intro v190 w37 ho hb hg hat; rw [← Ny189.out] at ho; have n0_ := Aside0.mk (hb); have n1_ := Aside0.mk (ho); clear HB; clear HO188; have HB := n0_; have HO191 := n1_; clear n0_ n1_; clear ho hb hg hat; obtain ⟨Ao38, co38, eo38⟩ := Kd.R_slice HO191.out; subst eo38) | ((with_reducible refine gate_callee (f := 10) rfl ?_); refine goesL_ (some 18) rfl rfl Try.func10 (by kernel_rfl) rfl #[.slice Ao38 y189.length co38] rfl (by (try simp only [List.map_toArray, List.map_cons, List.map_nil]); first | done | rfl | (simp only [List.length_drop, List.length_take]; rfl)) ?_; (with_reducible refine (script_Get.calls k _ _ y189 t192 t193 t194 t195 t196 t197 t198 t201 t204 t207 t210 t211 _ ?side1 ?side2 A7.out).mono ?_); (case side1 => repeat (first | exact (Kd.R_reads' HO191.out).2.2 | (with_reducible refine Kd.C_alloc ?_ _) | (with_reducible refine Kd.C_drewN ?_ _) | (with_reducible refine Kd.C_drew ?_))); (case side2 => exact (Kd.R_reads' HO191.out).2.1); rintro e w39 ⟨v199, v202, v205, v208, rfl, ho0, ho1, ho2, ho3, hb⟩; refine ⟨_, rfl, ?_⟩; have n0_ := Aside0.mk (Kd.R_elder' (by (with_reducible repeat (first | apply Kd.R_alloc | apply Kd.R_drewN | apply Kd.R_drew)); exact HO191.out) (Kd.R_base ho1) hb); have n1_ := Aside0.mk (Kd.R_lower ho0 (below_size (by repeat (first | (with_reducible first | exact HB.out | apply bwA | apply bwN | apply bw1) | exact HB.out)))); have n2_ := Aside0.mk (Kd.R_lower (Kd.R_new' ho1 (Kd.R_lt (by (with_reducible repeat (first | apply Kd.R_alloc | apply Kd.R_drewN | apply Kd.R_drew)); exact HO191.out))) (below_size (by repeat (first | (with_reducible first | exact HB.out | apply bwA | apply bwN | apply bw1) | exact HB.out)))); have n3_ := Aside0.mk (Kd.R_lower ho2 (below_size (by repeat (first | (with_reducible first | exact HB.out | apply bwA | apply bwN | apply bw1) | exact HB.out)))); have n4_ := Aside0.mk (Kd.R_lower ho3 (below_size (by repeat (first | (with_reducible first | exact HB.out | apply bwA | apply bwN | apply bw1) | exact HB.out)))); have n5_ := Aside0.mk (below_step (by repeat (first | (with_reducible first | exact HB.out | apply bwA | apply bwN | apply bw1) | exact HB.out)) hb); clear HO191; clear HB; have HO191 := n0_; have HO200 := n1_; have HO203 := n2_; have HO206 := n3_; have HO209 := n4_; have HB := n5_; clear n0_ n1_ n2_ n3_ n4_ n5_; (try clear hb); (try clear hb2); (try clear hk); (try clear hi); (try clear ho0); (try clear ho1); (try clear ho2); (try clear ho3)) | ((with_reducible refine gate_dst (N := 3) rfl ?_); refine box_event ?hg (N := 3) ?hd (cs := #[.int .i64 0, .int .i64 0, .int .i64 0, .int .i64 0, .int .i64 0, .int .i64 0, .slice none 0 0, .slice none 0 0, .slice none 0 0, .slice none 0 0]) (t := 30) ?hr ?_; (case hd => rfl); (case hg => rfl); (case hr => first | (go_simp; done) | (go_simp; rfl)); intro gb212 hg w40 hbox hb; have n0_ := Aside0.mk (Kd.R_below (by (with_reducible repeat (first | apply Kd.R_alloc | apply Kd.R_drewN | apply Kd.R_drew)); exact HO191.out) hb); have n1_ := Aside0.mk (Kd.R_below (by (with_reducible repeat (first | apply Kd.R_alloc | apply Kd.R_drewN | apply Kd.R_drew)); exact HO200.out) hb); have n2_ := Aside0.mk (Kd.R_below (by (with_reducible repeat (first | apply Kd.R_alloc | apply Kd.R_drewN | apply Kd.R_drew)); exact HO203.out) hb); have n3_ := Aside0.mk (Kd.R_below (by (with_reducible repeat (first | apply Kd.R_alloc | apply Kd.R_drewN | apply Kd.R_drew)); exact HO206.out) hb); have n4_ := Aside0.mk (Kd.R_below (by (with_reducible repeat (first | apply Kd.R_alloc | apply Kd.R_drewN | apply Kd.R_drew)); exact HO209.out) hb); have n5_ := Aside0.mk (below_step (by repeat (first | (with_reducible first | exact HB.out | apply bwA | apply bwN | apply bw1) | exact HB.out)) hb); have n6_ := Aside0.mk (hbox); have n7_ := Aside0.mk ((by rw [hg]; exact (below_size (by repeat (first | (with_reducible first | exact HB.out | apply bwA | apply bwN | apply bw1) | exact HB.out))) : w.heap.size ≤ gb212)); have n8_ := Aside0.mk ((by rw [hg]; exact (below_size (by repeat (first | (with_reducible first | exact HB.out | apply bwA | apply bwN | apply bw1) | exact HB.out))) : w.heap.size ≤ gb212)); clear HO191; clear HO200; clear HO203; clear HO206; clear HO209; clear HB; have HO191 := n0_; have HO200 := n1_; have HO203 := n2_; have HO206 := n3_; have HO209 := n4_; have HB := n5_; have BK212 := n6_; have GW212 := n7_; have GE212 := n8_; clear n0_ n1_ n2_ n3_ n4_ n5_ n6_ n7_ n8_; clear hb hbox hg; obtain ⟨hcz41_0, hcz41_1, hcz41_2, hcz41_3, hcz41_4, hcz41_5, hcz41_6, hcz41_7, hcz41_8, hcz41_9, hfz41_0, hfz41_1, hfz41_2, hfz41_3, hfz41_4, hfz41_5, hfz41_6, hfz41_7, hfz41_8, hfz41_9⟩ := cf10 BK212.out; obtain ⟨Ao42, co42, eo42⟩ := Kd.R_slice HO200.out; subst eo42; obtain ⟨Ao43, co43, eo43⟩ := Kd.R_slice HO203.out; subst eo43; obtain ⟨Ao44, co44, eo44⟩ := Kd.R_slice HO206.out; subst eo44; obtain ⟨Ao45, co45, eo45⟩ := Kd.R_slice HO209.out; subst eo45) | ((with_reducible refine gate_callee (f := 11) rfl ?_); refine goesL_ (some 24) rfl rfl Try.func11 (by kernel_rfl) rfl #[.slice A0 l0.length c0] rfl (by (try simp only [List.map_toArray, List.map_cons, List.map_nil]); first | done | rfl | (simp only [List.length_drop, List.length_take]; rfl)) ?_; (with_reducible refine (quarrelref20_Get.calls k _ _ l0 t213 t214 t215 t216 t217 t218 t219 t222 t225 t228 t231 t232 _ ?side1 ?side2 A8.out).mono ?_); (case side1 => exact Kd.C_below HR0.out (by repeat (first | (with_reducible first | exact HB.out | apply bwA | apply bwN | apply bw1 | refine bwS ?_ GE212.out) | exact HB.out))); (case side2 => exact HC0.out); rintro e w46 ⟨v220, v223, v226, v229, rfl, ho0, ho1, ho2, ho3, hb⟩; refine ⟨_, rfl, ?_⟩; have n0_ := Aside0.mk (Kd.R_elder' (by (with_reducible repeat (first | apply Kd.R_alloc | apply Kd.R_drewN | apply Kd.R_drew)); exact (Kd.R_mono (Kd.R_far (p := ⟨gb212, 9, none⟩) (Kd.R_far (p := ⟨gb212, 8, none⟩) (Kd.R_far (p := ⟨gb212, 7, none⟩) (Kd.R_far (p := ⟨gb212, 6, none⟩) (Kd.R_far (p := ⟨gb212, 5, none⟩) (Kd.R_far (p := ⟨gb212, 4, none⟩) (Kd.R_far (p := ⟨gb212, 3, none⟩) (Kd.R_far (p := ⟨gb212, 2, none⟩) (Kd.R_far (p := ⟨gb212, 1, none⟩) (Kd.R_far (p := ⟨gb212, 0, none⟩) (Kd.R_types HO191.out BK212.out (by decide)) (fun _ hk => hk.2) (.int .i64 t192)) (fun _ hk => hk.2) (.int .i64 t193)) (fun _ hk => hk.2) (.int .i64 t194)) (fun _ hk => hk.2) (.int .i64 t195)) (fun _ hk => hk.2) (.int .i64 t196)) (fun _ hk => hk.2) (.int .i64 t197)) (fun _ hk => hk.2) (.slice Ao42 t198.length co42)) (fun _ hk => hk.2) (.slice Ao43 t201.length co43)) (fun _ hk => hk.2) (.slice Ao44 t204.length co44)) (fun _ hk => hk.2) (.slice Ao45 t207.length co45)) (fun _ h_ => h_.1))) (Kd.R_base ho1) hb); have n1_ := Aside0.mk (Kd.R_elder' (by (with_reducible repeat (first | apply Kd.R_alloc | apply Kd.R_drewN | apply Kd.R_drew)); exact (Kd.R_mono (Kd.R_far (p := ⟨gb212, 9, none⟩) (Kd.R_far (p := ⟨gb212, 8, none⟩) (Kd.R_far (p := ⟨gb212, 7, none⟩) (Kd.R_far (p := ⟨gb212, 6, none⟩) (Kd.R_far (p := ⟨gb212, 5, none⟩) (Kd.R_far (p := ⟨gb212, 4, none⟩) (Kd.R_far (p := ⟨gb212, 3, none⟩) (Kd.R_far (p := ⟨gb212, 2, none⟩) (Kd.R_far (p := ⟨gb212, 1, none⟩) (Kd.R_far (p := ⟨gb212, 0, none⟩) (Kd.R_types HO200.out BK212.out (by decide)) (fun _ hk => hk.2) (.int .i64 t192)) (fun _ hk => hk.2) (.int .i64 t193)) (fun _ hk => hk.2) (.int .i64 t194)) (fun _ hk => hk.2) (.int .i64 t195)) (fun _ hk => hk.2) (.int .i64 t196)) (fun _ hk => hk.2) (.int .i64 t197)) (fun _ hk => hk.2) (.slice Ao42 t198.length co42)) (fun _ hk => hk.2) (.slice Ao43 t201.length co43)) (fun _ hk => hk.2) (.slice Ao44 t204.length co44)) (fun _ hk => hk.2) (.slice Ao45 t207.length co45)) (fun _ h_ => h_.1))) (Kd.R_base ho0) hb); have n2_ := Aside0.mk (Kd.R_elder' (by (with_reducible repeat (first | apply Kd.R_alloc | apply Kd.R_drewN | apply Kd.R_drew)); exact (Kd.R_mono (Kd.R_far (p := ⟨gb212, 9, none⟩) (Kd.R_far (p := ⟨gb212, 8, none⟩) (Kd.R_far (p := ⟨gb212, 7, none⟩) (Kd.R_far (p := ⟨gb212, 6, none⟩) (Kd.R_far (p := ⟨gb212, 5, none⟩) (Kd.R_far (p := ⟨gb212, 4, none⟩) (Kd.R_far (p := ⟨gb212, 3, none⟩) (Kd.R_far (p := ⟨gb212, 2, none⟩) (Kd.R_far (p := ⟨gb212, 1, none⟩) (Kd.R_far (p := ⟨gb212, 0, none⟩) (Kd.R_types HO203.out BK212.out (by decide)) (fun _ hk => hk.2) (.int .i64 t192)) (fun _ hk => hk.2) (.int .i64 t193)) (fun _ hk => hk.2) (.int .i64 t194)) (fun _ hk => hk.2) (.int .i64 t195)) (fun _ hk => hk.2) (.int .i64 t196)) (fun _ hk => hk.2) (.int .i64 t197)) (fun _ hk => hk.2) (.slice Ao42 t198.length co42)) (fun _ hk => hk.2) (.slice Ao43 t201.length co43)) (fun _ hk => hk.2) (.slice Ao44 t204.length co44)) (fun _ hk => hk.2) (.slice Ao45 t207.length co45)) (fun _ h_ => h_.1))) (Kd.R_base ho1) hb); have n3_ := Aside0.mk (Kd.R_elder' (by (with_reducible repeat (first | apply Kd.R_alloc | apply Kd.R_drewN | apply Kd.R_drew)); exact (Kd.R_mono (Kd.R_far (p := ⟨gb212, 9, none⟩) (Kd.R_far (p := ⟨gb212, 8, none⟩) (Kd.R_far (p := ⟨gb212, 7, none⟩) (Kd.R_far (p := ⟨gb212, 6, none⟩) (Kd.R_far (p := ⟨gb212, 5, none⟩) (Kd.R_far (p := ⟨gb212, 4, none⟩) (Kd.R_far (p := ⟨gb212, 3, none⟩) (Kd.R_far (p := ⟨gb212, 2, none⟩) (Kd.R_far (p := ⟨gb212, 1, none⟩) (Kd.R_far (p := ⟨gb212, 0, none⟩) (Kd.R_types HO206.out BK212.out (by decide)) (fun _ hk => hk.2) (.int .i64 t192)) (fun _ hk => hk.2) (.int .i64 t193)) (fun _ hk => hk.2) (.int .i64 t194)) (fun _ hk => hk.2) (.int .i64 t195)) (fun _ hk => hk.2) (.int .i64 t196)) (fun _ hk => hk.2) (.int .i64 t197)) (fun _ hk => hk.2) (.slice Ao42 t198.length co42)) (fun _ hk => hk.2) (.slice Ao43 t201.length co43)) (fun _ hk => hk.2) (.slice Ao44 t204.length co44)) (fun _ hk => hk.2) (.slice Ao45 t207.length co45)) (fun _ h_ => h_.1))) (Kd.R_base ho2) hb); have n4_ := Aside0.mk (Kd.R_elder' (by (with_reducible repeat (first | apply Kd.R_alloc | apply Kd.R_drewN | apply Kd.R_drew)); exact (Kd.R_mono (Kd.R_far (p := ⟨gb212, 9, none⟩) (Kd.R_far (p := ⟨gb212, 8, none⟩) (Kd.R_far (p := ⟨gb212, 7, none⟩) (Kd.R_far (p := ⟨gb212, 6, none⟩) (Kd.R_far (p := ⟨gb212, 5, none⟩) (Kd.R_far (p := ⟨gb212, 4, none⟩) (Kd.R_far (p := ⟨gb212, 3, none⟩) (Kd.R_far (p := ⟨gb212, 2, none⟩) (Kd.R_far (p := ⟨gb212, 1, none⟩) (Kd.R_far (p := ⟨gb212, 0, none⟩) (Kd.R_types HO209.out BK212.out (by decide)) (fun _ hk => hk.2) (.int .i64 t192)) (fun _ hk => hk.2) (.int .i64 t193)) (fun _ hk => hk.2) (.int .i64 t194)) (fun _ hk => hk.2) (.int .i64 t195)) (fun _ hk => hk.2) (.int .i64 t196)) (fun _ hk => hk.2) (.int .i64 t197)) (fun _ hk => hk.2) (.slice Ao42 t198.length co42)) (fun _ hk => hk.2) (.slice Ao43 t201.length co43)) (fun _ hk => hk.2) (.slice Ao44 t204.length co44)) (fun _ hk => hk.2) (.slice Ao45 t207.length co45)) (fun _ h_ => h_.1))) (Kd.R_base ho3) hb); have n5_ := Aside0.mk (Kd.R_lower (Kd.R_new' ho0 (Kd.R_lt (by (with_reducible repeat (first | apply Kd.R_alloc | apply Kd.R_drewN | apply Kd.R_drew)); exact (Kd.R_mono (Kd.R_far (p := ⟨gb212, 9, none⟩) (Kd.R_far (p := ⟨gb212, 8, none⟩) (Kd.R_far (p := ⟨gb212, 7, none⟩) (Kd.R_far (p := ⟨gb212, 6, none⟩) (Kd.R_far (p := ⟨gb212, 5, none⟩) (Kd.R_far (p := ⟨gb212, 4, none⟩) (Kd.R_far (p := ⟨gb212, 3, none⟩) (Kd.R_far (p := ⟨gb212, 2, none⟩) (Kd.R_far (p := ⟨gb212, 1, none⟩) (Kd.R_far (p := ⟨gb212, 0, none⟩) (Kd.R_types HO200.out BK212.out (by decide)) (fun _ hk => hk.2) (.int .i64 t192)) (fun _ hk => hk.2) (.int .i64 t193)) (fun _ hk => hk.2) (.int .i64 t194)) (fun _ hk => hk.2) (.int .i64 t195)) (fun _ hk => hk.2) (.int .i64 t196)) (fun _ hk => hk.2) (.int .i64 t197)) (fun _ hk => hk.2) (.slice Ao42 t198.length co42)) (fun _ hk => hk.2) (.slice Ao43 t201.length co43)) (fun _ hk => hk.2) (.slice Ao44 t204.length co44)) (fun _ hk => hk.2) (.slice Ao45 t207.length co45)) (fun _ h_ => h_.1))))) (below_size (by repeat (first | (with_reducible first | exact HB.out | apply bwA | apply bwN | apply bw1 | refine bwS ?_ GE212.out) | exact HB.out)))); have n6_ := Aside0.mk (Kd.R_lower (Kd.R_new' (Kd.R_new' ho1 (Kd.R_lt (by (with_reducible repeat (first | apply Kd.R_alloc | apply Kd.R_drewN | apply Kd.R_drew)); exact (Kd.R_mono (Kd.R_far (p := ⟨gb212, 9, none⟩) (Kd.R_far (p := ⟨gb212, 8, none⟩) (Kd.R_far (p := ⟨gb212, 7, none⟩) (Kd.R_far (p := ⟨gb212, 6, none⟩) (Kd.R_far (p := ⟨gb212, 5, none⟩) (Kd.R_far (p := ⟨gb212, 4, none⟩) (Kd.R_far (p := ⟨gb212, 3, none⟩) (Kd.R_far (p := ⟨gb212, 2, none⟩) (Kd.R_far (p := ⟨gb212, 1, none⟩) (Kd.R_far (p := ⟨gb212, 0, none⟩) (Kd.R_types HO191.out BK212.out (by decide)) (fun _ hk => hk.2) (.int .i64 t192)) (fun _ hk => hk.2) (.int .i64 t193)) (fun _ hk => hk.2) (.int .i64 t194)) (fun _ hk => hk.2) (.int .i64 t195)) (fun _ hk => hk.2) (.int .i64 t196)) (fun _ hk => hk.2) (.int .i64 t197)) (fun _ hk => hk.2) (.slice Ao42 t198.length co42)) (fun _ hk => hk.2) (.slice Ao43 t201.length co43)) (fun _ hk => hk.2) (.slice Ao44 t204.length co44)) (fun _ hk => hk.2) (.slice Ao45 t207.length co45)) (fun _ h_ => h_.1))))) (Kd.R_lt (by (with_reducible repeat (first | apply Kd.R_alloc | apply Kd.R_drewN | apply Kd.R_drew)); exact (Kd.R_mono (Kd.R_far (p := ⟨gb212, 9, none⟩) (Kd.R_far (p := ⟨gb212, 8, none⟩) (Kd.R_far (p := ⟨gb212, 7, none⟩) (Kd.R_far (p := ⟨gb212, 6, none⟩) (Kd.R_far (p := ⟨gb212, 5, none⟩) (Kd.R_far (p := ⟨gb212, 4, none⟩) (Kd.R_far (p := ⟨gb212, 3, none⟩) (Kd.R_far (p := ⟨gb212, 2, none⟩) (Kd.R_far (p := ⟨gb212, 1, none⟩) (Kd.R_far (p := ⟨gb212, 0, none⟩) (Kd.R_types HO203.out BK212.out (by decide)) (fun _ hk => hk.2) (.int .i64 t192)) (fun _ hk => hk.2) (.int .i64 t193)) (fun _ hk => hk.2) (.int .i64 t194)) (fun _ hk => hk.2) (.int .i64 t195)) (fun _ hk => hk.2) (.int .i64 t196)) (fun _ hk => hk.2) (.int .i64 t197)) (fun _ hk => hk.2) (.slice Ao42 t198.length co42)) (fun _ hk => hk.2) (.slice Ao43 t201.length co43)) (fun _ hk => hk.2) (.slice Ao44 t204.length co44)) (fun _ hk => hk.2) (.slice Ao45 t207.length co45)) (fun _ h_ => h_.1))))) (below_size (by repeat (first | (with_reducible first | exact HB.out | apply bwA | apply bwN | apply bw1 | refine bwS ?_ GE212.out) | exact HB.out)))); have n7_ := Aside0.mk (Kd.R_lower (Kd.R_new' ho2 (Kd.R_lt (by (with_reducible repeat (first | apply Kd.R_alloc | apply Kd.R_drewN | apply Kd.R_drew)); exact (Kd.R_mono (Kd.R_far (p := ⟨gb212, 9, none⟩) (Kd.R_far (p := ⟨gb212, 8, none⟩) (Kd.R_far (p := ⟨gb212, 7, none⟩) (Kd.R_far (p := ⟨gb212, 6, none⟩) (Kd.R_far (p := ⟨gb212, 5, none⟩) (Kd.R_far (p := ⟨gb212, 4, none⟩) (Kd.R_far (p := ⟨gb212, 3, none⟩) (Kd.R_far (p := ⟨gb212, 2, none⟩) (Kd.R_far (p := ⟨gb212, 1, none⟩) (Kd.R_far (p := ⟨gb212, 0, none⟩) (Kd.R_types HO206.out BK212.out (by decide)) (fun _ hk => hk.2) (.int .i64 t192)) (fun _ hk => hk.2) (.int .i64 t193)) (fun _ hk => hk.2) (.int .i64 t194)) (fun _ hk => hk.2) (.int .i64 t195)) (fun _ hk => hk.2) (.int .i64 t196)) (fun _ hk => hk.2) (.int .i64 t197)) (fun _ hk => hk.2) (.slice Ao42 t198.length co42)) (fun _ hk => hk.2) (.slice Ao43 t201.length co43)) (fun _ hk => hk.2) (.slice Ao44 t204.length co44)) (fun _ hk => hk.2) (.slice Ao45 t207.length co45)) (fun _ h_ => h_.1))))) (below_size (by repeat (first | (with_reducible first | exact HB.out | apply bwA | apply bwN | apply bw1 | refine bwS ?_ GE212.out) | exact HB.out)))); have n8_ := Aside0.mk (Kd.R_lower (Kd.R_new' ho3 (Kd.R_lt (by (with_reducible repeat (first | apply Kd.R_alloc | apply Kd.R_drewN | apply Kd.R_drew)); exact (Kd.R_mono (Kd.R_far (p := ⟨gb212, 9, none⟩) (Kd.R_far (p := ⟨gb212, 8, none⟩) (Kd.R_far (p := ⟨gb212, 7, none⟩) (Kd.R_far (p := ⟨gb212, 6, none⟩) (Kd.R_far (p := ⟨gb212, 5, none⟩) (Kd.R_far (p := ⟨gb212, 4, none⟩) (Kd.R_far (p := ⟨gb212, 3, none⟩) (Kd.R_far (p := ⟨gb212, 2, none⟩) (Kd.R_far (p := ⟨gb212, 1, none⟩) (Kd.R_far (p := ⟨gb212, 0, none⟩) (Kd.R_types HO209.out BK212.out (by decide)) (fun _ hk => hk.2) (.int .i64 t192)) (fun _ hk => hk.2) (.int .i64 t193)) (fun _ hk => hk.2) (.int .i64 t194)) (fun _ hk => hk.2) (.int .i64 t195)) (fun _ hk => hk.2) (.int .i64 t196)) (fun _ hk => hk.2) (.int .i64 t197)) (fun _ hk => hk.2) (.slice Ao42 t198.length co42)) (fun _ hk => hk.2) (.slice Ao43 t201.length co43)) (fun _ hk => hk.2) (.slice Ao44 t204.length co44)) (fun _ hk => hk.2) (.slice Ao45 t207.length co45)) (fun _ h_ => h_.1))))) (below_size (by repeat (first | (with_reducible first | exact HB.out | apply bwA | apply bwN | apply bw1 | refine bwS ?_ GE212.out) | exact HB.out)))); have n9_ := Aside0.mk (blk_below (g := gb212) (o := .cells #[.int .i64 t192, .int .i64 t193, .int .i64 t194, .int .i64 t195, .int .i64 t196, .int .i64 t197, .slice Ao42 t198.length co42, .slice Ao43 t201.length co43, .slice Ao44 t204.length co44, .slice Ao45 t207.length co45] 30 (0, 0)) (by (with_reducible repeat (first | refine blk_drewN ?_ _ | refine blk_drew ?_ | refine blk_alloc ?_ _)); refine blk_put (cs := #[.int .i64 t192, .int .i64 t193, .int .i64 t194, .int .i64 t195, .int .i64 t196, .int .i64 t197, .slice Ao42 t198.length co42, .slice Ao43 t201.length co43, .slice Ao44 t204.length co44, .slice none 0 0]) ?_ 9 _ rfl; (with_reducible repeat (first | refine blk_drewN ?_ _ | refine blk_drew ?_ | refine blk_alloc ?_ _)); refine blk_put (cs := #[.int .i64 t192, .int .i64 t193, .int .i64 t194, .int .i64 t195, .int .i64 t196, .int .i64 t197, .slice Ao42 t198.length co42, .slice Ao43 t201.length co43, .slice none 0 0, .slice none 0 0]) ?_ 8 _ rfl; (with_reducible repeat (first | refine blk_drewN ?_ _ | refine blk_drew ?_ | refine blk_alloc ?_ _)); refine blk_put (cs := #[.int .i64 t192, .int .i64 t193, .int .i64 t194, .int .i64 t195, .int .i64 t196, .int .i64 t197, .slice Ao42 t198.length co42, .slice none 0 0, .slice none 0 0, .slice none 0 0]) ?_ 7 _ rfl; (with_reducible repeat (first | refine blk_drewN ?_ _ | refine blk_drew ?_ | refine blk_alloc ?_ _)); refine blk_put (cs := #[.int .i64 t192, .int .i64 t193, .int .i64 t194, .int .i64 t195, .int .i64 t196, .int .i64 t197, .slice none 0 0, .slice none 0 0, .slice none 0 0, .slice none 0 0]) ?_ 6 _ rfl; (with_reducible repeat (first | refine blk_drewN ?_ _ | refine blk_drew ?_ | refine blk_alloc ?_ _)); refine blk_put (cs := #[.int .i64 t192, .int .i64 t193, .int .i64 t194, .int .i64 t195, .int .i64 t196, .int .i64 0, .slice none 0 0, .slice none 0 0, .slice none 0 0, .slice none 0 0]) ?_ 5 _ rfl; (with_reducible repeat (first | refine blk_drewN ?_ _ | refine blk_drew ?_ | refine blk_alloc ?_ _)); refine blk_put (cs := #[.int .i64 t192, .int .i64 t193, .int .i64 t194, .int .i64 t195, .int .i64 0, .int .i64 0, .slice none 0 0, .slice none 0 0, .slice none 0 0, .slice none 0 0]) ?_ 4 _ rfl; (with_reducible repeat (first | refine blk_drewN ?_ _ | refine blk_drew ?_ | refine blk_alloc ?_ _)); refine blk_put (cs := #[.int .i64 t192, .int .i64 t193, .int .i64 t194, .int .i64 0, .int .i64 0, .int .i64 0, .slice none 0 0, .slice none 0 0, .slice none 0 0, .slice none 0 0]) ?_ 3 _ rfl; (with_reducible repeat (first | refine blk_drewN ?_ _ | refine blk_drew ?_ | refine blk_alloc ?_ _)); refine blk_put (cs := #[.int .i64 t192, .int .i64 t193, .int .i64 0, .int .i64 0, .int .i64 0, .int .i64 0, .slice none 0 0, .slice none 0 0, .slice none 0 0, .slice none 0 0]) ?_ 2 _ rfl; (with_reducible repeat (first | refine blk_drewN ?_ _ | refine blk_drew ?_ | refine blk_alloc ?_ _)); refine blk_put (cs := #[.int .i64 t192, .int .i64 0, .int .i64 0, .int .i64 0, .int .i64 0, .int .i64 0, .slice none 0 0, .slice none 0 0, .slice none 0 0, .slice none 0 0]) ?_ 1 _ rfl; (with_reducible repeat (first | refine blk_drewN ?_ _ | refine blk_drew ?_ | refine blk_alloc ?_ _)); refine blk_put (cs := #[.int .i64 0, .int .i64 0, .int .i64 0, .int .i64 0, .int .i64 0, .int .i64 0, .slice none 0 0, .slice none 0 0, .slice none 0 0, .slice none 0 0]) ?_ 0 _ rfl; (with_reducible repeat (first | refine blk_drewN ?_ _ | refine blk_drew ?_ | refine blk_alloc ?_ _)); exact BK212.out) hb); have n10_ := Aside0.mk (below_step (by repeat (first | (with_reducible first | exact HB.out | apply bwA | apply bwN | apply bw1 | refine bwS ?_ GE212.out) | exact HB.out)) hb); clear HO191; clear HO200; clear HO203; clear HO206; clear HO209; clear BK212; clear HB; have HO191 := n0_; have HO200 := n1_; have HO203 := n2_; have HO206 := n3_; have HO209 := n4_; have HO221 := n5_; have HO224 := n6_; have HO227 := n7_; have HO230 := n8_; have BK212 := n9_; have HB := n10_; clear n0_ n1_ n2_ n3_ n4_ n5_ n6_ n7_ n8_ n9_ n10_; (try clear hb); (try clear hb2); (try clear hk); (try clear hi); (try clear ho0); (try clear ho1); (try clear ho2); (try clear ho3)) | ((with_reducible refine gate_dst (N := 6) rfl ?_); refine box_event ?hg (N := 6) ?hd (cs := #[.int .i64 0, .int .i64 0, .int .i64 0, .int .i64 0, .int .i64 0, .int .i64 0, .slice none 0 0, .slice none 0 0, .slice none 0 0, .slice none 0 0]) (t := 34) ?hr ?_; (case hd => rfl); (case hg => rfl); (case hr => first | (go_simp; done) | (go_simp; rfl)); intro gb233 hg w47 hbox hb; have n0_ := Aside0.mk (Kd.R_below (by (with_reducible repeat (first | apply Kd.R_alloc | apply Kd.R_drewN | apply Kd.R_drew)); exact HO191.out) hb); have n1_ := Aside0.mk (Kd.R_below (by (with_reducible repeat (first | apply Kd.R_alloc | apply Kd.R_drewN | apply Kd.R_drew)); exact HO200.out) hb); have n2_ := Aside0.mk (Kd.R_below (by (with_reducible repeat (first | apply Kd.R_alloc | apply Kd.R_drewN | apply Kd.R_drew)); exact HO203.out) hb); have n3_ := Aside0.mk (Kd.R_below (by (with_reducible repeat (first | apply Kd.R_alloc | apply Kd.R_drewN | apply Kd.R_drew)); exact HO206.out) hb); have n4_ := Aside0.mk (Kd.R_below (by (with_reducible repeat (first | apply Kd.R_alloc | apply Kd.R_drewN | apply Kd.R_drew)); exact HO209.out) hb); have n5_ := Aside0.mk (Kd.R_below (by (with_reducible repeat (first | apply Kd.R_alloc | apply Kd.R_drewN | apply Kd.R_drew)); exact HO221.out) hb); have n6_ := Aside0.mk (Kd.R_below (by (with_reducible repeat (first | apply Kd.R_alloc | apply Kd.R_drewN | apply Kd.R_drew)); exact HO224.out) hb); have n7_ := Aside0.mk (Kd.R_below (by (with_reducible repeat (first | apply Kd.R_alloc | apply Kd.R_drewN | apply Kd.R_drew)); exact HO227.out) hb); have n8_ := Aside0.mk (Kd.R_below (by (with_reducible repeat (first | apply Kd.R_alloc | apply Kd.R_drewN | apply Kd.R_drew)); exact HO230.out) hb); have n9_ := Aside0.mk (blk_below (g := gb212) (o := .cells #[.int .i64 t192, .int .i64 t193, .int .i64 t194, .int .i64 t195, .int .i64 t196, .int .i64 t197, .slice Ao42 t198.length co42, .slice Ao43 t201.length co43, .slice Ao44 t204.length co44, .slice Ao45 t207.length co45] 30 (0, 0)) (by (with_reducible repeat (first | refine blk_drewN ?_ _ | refine blk_drew ?_ | refine blk_alloc ?_ _)); exact BK212.out) hb); have n10_ := Aside0.mk (below_step (by repeat (first | (with_reducible first | exact HB.out | apply bwA | apply bwN | apply bw1 | refine bwS ?_ GE212.out) | exact HB.out)) hb); have n11_ := Aside0.mk (hbox); have n12_ := Aside0.mk ((by rw [hg]; exact (below_size (by repeat (first | (with_reducible first | exact HB.out | apply bwA | apply bwN | apply bw1 | refine bwS ?_ GE212.out) | exact HB.out))) : w.heap.size ≤ gb233)); have n13_ := Aside0.mk ((by rw [hg]; exact (below_size (by repeat (first | (with_reducible first | exact HB.out | apply bwA | apply bwN | apply bw1 | refine bwS ?_ GE212.out) | exact HB.out))) : w.heap.size ≤ gb233)); have n14_ := Aside0.mk ((by rw [hg]; exact Nat.ne_of_lt (blk_lt (g := gb212) (o := .cells #[.int .i64 t192, .int .i64 t193, .int .i64 t194, .int .i64 t195, .int .i64 t196, .int .i64 t197, .slice Ao42 t198.length co42, .slice Ao43 t201.length co43, .slice Ao44 t204.length co44, .slice Ao45 t207.length co45] 30 (0, 0)) (by (with_reducible repeat (first | refine blk_drewN ?_ _ | refine blk_drew ?_ | refine blk_alloc ?_ _)); exact BK212.out)) : gb212 ≠ gb233)); have n15_ := Aside0.mk ((by rw [hg]; exact Nat.ne_of_gt (blk_lt (g := gb212) (o := .cells #[.int .i64 t192, .int .i64 t193, .int .i64 t194, .int .i64 t195, .int .i64 t196, .int .i64 t197, .slice Ao42 t198.length co42, .slice Ao43 t201.length co43, .slice Ao44 t204.length co44, .slice Ao45 t207.length co45] 30 (0, 0)) (by (with_reducible repeat (first | refine blk_drewN ?_ _ | refine blk_drew ?_ | refine blk_alloc ?_ _)); exact BK212.out)) : gb233 ≠ gb212)); clear HO191; clear HO200; clear HO203; clear HO206; clear HO209; clear HO221; clear HO224; clear HO227; clear HO230; clear BK212; clear HB; have HO191 := n0_; have HO200 := n1_; have HO203 := n2_; have HO206 := n3_; have HO209 := n4_; have HO221 := n5_; have HO224 := n6_; have HO227 := n7_; have HO230 := n8_; have BK212 := n9_; have HB := n10_; have BK233 := n11_; have GW233 := n12_; have GE233 := n13_; have NB212_233 := n14_; have NB233_212 := n15_; clear n0_ n1_ n2_ n3_ n4_ n5_ n6_ n7_ n8_ n9_ n10_ n11_ n12_ n13_ n14_ n15_; clear hb hbox hg; have hnb48 := NB233_212.out; have hnc48 := NB212_233.out; obtain ⟨hcz49_0, hcz49_1, hcz49_2, hcz49_3, hcz49_4, hcz49_5, hcz49_6, hcz49_7, hcz49_8, hcz49_9, hfz49_0, hfz49_1, hfz49_2, hfz49_3, hfz49_4, hfz49_5, hfz49_6, hfz49_7, hfz49_8, hfz49_9⟩ := cf10 BK233.out; obtain ⟨Ao50, co50, eo50⟩ := Kd.R_slice HO221.out; subst eo50; obtain ⟨Ao51, co51, eo51⟩ := Kd.R_slice HO224.out; subst eo51; obtain ⟨Ao52, co52, eo52⟩ := Kd.R_slice HO227.out; subst eo52; obtain ⟨Ao53, co53, eo53⟩ := Kd.R_slice HO230.out; subst eo53))
      go_ret
      exact ⟨by first | rfl | (simp [errW_none, errW_some] <;> rfl) | (simp [*, errW_none, errW_some] <;> rfl), by repeat (first | (with_reducible first | exact HB.out | apply bwA | apply bwN | apply bw1 | refine bwS ?_ GE212.out | refine bwS ?_ GE233.out) | exact HB.out)⟩
    ·rw [if_neg c9] at H
     have c9b0 : (t210 == t231) = false := beq_eq_false_iff_ne.mpr c9
     have c9b1 : (t210 != t231) = true := bne_iff_ne.mpr c9
     obtain rfl := Option.some.inj H
     go_enter Try.func3, Try.ntmps3
     go_wp2_with (first | ((with_reducible refine gate_callee (f := 9) rfl ?_); refine goesL_ (some 9) rfl rfl Try.func9 (by kernel_rfl) rfl #[] rfl (by (try simp only [List.map_toArray, List.map_cons, List.map_nil]); first | done | rfl | (simp only [List.length_drop, List.length_take]; rfl)) ?_; (with_reducible refine (quarrellaw20_alive.calls k  true _ A2.out).mono ?_); rintro e w54 ⟨rfl, hb⟩; refine ⟨_, rfl, ?_⟩; have n0_ := Aside0.mk (below_step (by repeat (first | (with_reducible first | exact HB.out | apply bwA | apply bwN | apply bw1) | exact HB.out)) hb); clear HB; have HB := n0_; clear n0_; (try clear hb); (try clear hb2); (try clear hk); (try clear hi)) | ((with_reducible refine gate_dst (N := 15) rfl ?_); refine Kd.R_lit (Kd.int .u8) _ 5 ?hg (N := 15) ?hd (xs := ([] : List Int)) (inner := []) (ok := fun _ => True) (okp := fun _ => True) ?hr ?hp (fun _ hk => hk) trivial (Below.refl _ _) (Nat.le_refl _) (by simp) ?_; (case hd => rfl); (case hg => rfl); (case hr => first | (go_simp; done) | (go_simp; rfl)); (case hp => exact (Reps.none _ _)); intro v187 w55 ho56 hb hg_ hnew_; clear hg_ hnew_; (first | rw [← Ny186.out] at ho56 | (simp only [Int.reduceToNat] at ho56; rw [← Ny186.out] at ho56)); have n0_ := Aside0.mk (Kd.R_lower ho56 (below_size (by repeat (first | (with_reducible first | exact HB.out | apply bwA | apply bwN | apply bw1) | exact HB.out)))); have n1_ := Aside0.mk (below_step (by repeat (first | (with_reducible first | exact HB.out | apply bwA | apply bwN | apply bw1) | exact HB.out)) hb); clear HB; have HO188 := n0_; have HB := n1_; clear n0_ n1_; clear hb ho56) | ((with_reducible refine gate_builtin (b := .append) (xs := #[.tmp 15, .tmp 16]) rfl ?_); at_builtin; refine Kd.R_append_rows (Kd.int .u8) (w0 := w) w.heap.size rfl (.tmp 15) (.tmp 16) 22 5 (.int .u8 0) 1 rfl Try.underlying22 info5 rfl (by decide) (by omega) v187 y186 l0 _ _ _ (fun _ => True) (fun _ => False) rfl rfl ?aO ?aR (fun _ _ h => h) (fun _ h => h.elim) ?aF ?aB ?aS ?aL ?_; (case aR => repeat (first | exact (Kd.C_below HR0.out HB.out) | (with_reducible refine Kd.C_alloc ?_ _) | (with_reducible refine Kd.C_drewN ?_ _) | (with_reducible refine Kd.C_drew ?_))); (case aB => exact (by repeat (first | (with_reducible first | exact HB.out | apply bwA | apply bwN | apply bw1) | exact HB.out))); (case aF => exact (fun _ _ => trivial)); (case aO => exact (by (with_reducible repeat (first | apply Kd.R_alloc | apply Kd.R_drewN | apply Kd.R_drew)); exact HO188.out)); (case aS => exact (below_size (by repeat (first | (with_reducible first | exact HB.out | apply bwA | apply bwN | apply bw1) | exact HB.out)))); (case aL => have := LMc6.out; omega); intro v190 w57 ho hb hg hat; rw [← Ny189.out] at ho; have n0_ := Aside0.mk (hb); have n1_ := Aside0.mk (ho); clear HB; clear HO188; have HB := n0_; have HO191 := n1_; clear n0_ n1_; clear ho hb hg hat; obtain ⟨Ao58, co58, eo58⟩ := Kd.R_slice HO191.out; subst eo58) | ((with_reducible refine gate_callee (f := 10) rfl ?_); refine goesL_ (some 18) rfl rfl Try.func10 (by kernel_rfl) rfl #[.slice Ao58 y189.length co58] rfl (by (try simp only [List.map_toArray, List.map_cons, List.map_nil]); first | done | rfl | (simp only [List.length_drop, List.length_take]; rfl)) ?_; (with_reducible refine (script_Get.calls k _ _ y189 t192 t193 t194 t195 t196 t197 t198 t201 t204 t207 t210 t211 _ ?side1 ?side2 A7.out).mono ?_); (case side1 => repeat (first | exact (Kd.R_reads' HO191.out).2.2 | (with_reducible refine Kd.C_alloc ?_ _) | (with_reducible refine Kd.C_drewN ?_ _) | (with_reducible refine Kd.C_drew ?_))); (case side2 => exact (Kd.R_reads' HO191.out).2.1); rintro e w59 ⟨v199, v202, v205, v208, rfl, ho0, ho1, ho2, ho3, hb⟩; refine ⟨_, rfl, ?_⟩; have n0_ := Aside0.mk (Kd.R_elder' (by (with_reducible repeat (first | apply Kd.R_alloc | apply Kd.R_drewN | apply Kd.R_drew)); exact HO191.out) (Kd.R_base ho1) hb); have n1_ := Aside0.mk (Kd.R_lower ho0 (below_size (by repeat (first | (with_reducible first | exact HB.out | apply bwA | apply bwN | apply bw1) | exact HB.out)))); have n2_ := Aside0.mk (Kd.R_lower (Kd.R_new' ho1 (Kd.R_lt (by (with_reducible repeat (first | apply Kd.R_alloc | apply Kd.R_drewN | apply Kd.R_drew)); exact HO191.out))) (below_size (by repeat (first | (with_reducible first | exact HB.out | apply bwA | apply bwN | apply bw1) | exact HB.out)))); have n3_ := Aside0.mk (Kd.R_lower ho2 (below_size (by repeat (first | (with_reducible first | exact HB.out | apply bwA | apply bwN | apply bw1) | exact HB.out)))); have n4_ := Aside0.mk (Kd.R_lower ho3 (below_size (by repeat (first | (with_reducible first | exact HB.out | apply bwA | apply bwN | apply bw1) | exact HB.out)))); have n5_ := Aside0.mk (below_step (by repeat (first | (with_reducible first | exact HB.out | apply bwA | apply bwN | apply bw1) | exact HB.out)) hb); clear HO191; clear HB; have HO191 := n0_; have HO200 := n1_; have HO203 := n2_; have HO206 := n3_; have HO209 := n4_; have HB := n5_; clear n0_ n1_ n2_ n3_ n4_ n5_; (try clear hb); (try clear hb2); (try clear hk); (try clear hi); (try clear ho0); (try clear ho1); (try clear ho2); (try clear ho3)) | ((with_reducible refine gate_dst (N := 3) rfl ?_); refine box_event ?hg (N := 3) ?hd (cs := #[.int .i64 0, .int .i64 0, .int .i64 0, .int .i64 0, .int .i64 0, .int .i64 0, .slice none 0 0, .slice none 0 0, .slice none 0 0, .slice none 0 0]) (t := 30) ?hr ?_; (case hd => rfl); (case hg => rfl); (case hr => first | (go_simp; done) | (go_simp; rfl)); intro gb212 hg w60 hbox hb; have n0_ := Aside0.mk (Kd.R_below (by (with_reducible repeat (first | apply Kd.R_alloc | apply Kd.R_drewN | apply Kd.R_drew)); exact HO191.out) hb); have n1_ := Aside0.mk (Kd.R_below (by (with_reducible repeat (first | apply Kd.R_alloc | apply Kd.R_drewN | apply Kd.R_drew)); exact HO200.out) hb); have n2_ := Aside0.mk (Kd.R_below (by (with_reducible repeat (first | apply Kd.R_alloc | apply Kd.R_drewN | apply Kd.R_drew)); exact HO203.out) hb); have n3_ := Aside0.mk (Kd.R_below (by (with_reducible repeat (first | apply Kd.R_alloc | apply Kd.R_drewN | apply Kd.R_drew)); exact HO206.out) hb); have n4_ := Aside0.mk (Kd.R_below (by (with_reducible repeat (first | apply Kd.R_alloc | apply Kd.R_drewN | apply Kd.R_drew)); exact HO209.out) hb); have n5_ := Aside0.mk (below_step (by repeat (first | (with_reducible first | exact HB.out | apply bwA | apply bwN | apply bw1) | exact HB.out)) hb); have n6_ := Aside0.mk (hbox); have n7_ := Aside0.mk ((by rw [hg]; exact (below_size (by repeat (first | (with_reducible first | exact HB.out | apply bwA | apply bwN | apply bw1) | exact HB.out))) : w.heap.size ≤ gb212)); have n8_ := Aside0.mk ((by rw [hg]; exact (below_size (by repeat (first | (with_reducible first | exact HB.out | apply bwA | apply bwN | apply bw1) | exact HB.out))) : w.heap.size ≤ gb212)); clear HO191; clear HO200; clear HO203; clear HO206; clear HO209; clear HB; have HO191 := n0_; have HO200 := n1_; have HO203 := n2_; have HO206 := n3_; have HO209 := n4_; have HB := n5_; have BK212 := n6_; have GW212 := n7_; have GE212 := n8_; clear n0_ n1_ n2_ n3_ n4_ n5_ n6_ n7_ n8_; clear hb hbox hg; obtain ⟨hcz61_0, hcz61_1, hcz61_2, hcz61_3, hcz61_4, hcz61_5, hcz61_6, hcz61_7, hcz61_8, hcz61_9, hfz61_0, hfz61_1, hfz61_2, hfz61_3, hfz61_4, hfz61_5, hfz61_6, hfz61_7, hfz61_8, hfz61_9⟩ := cf10 BK212.out; obtain ⟨Ao62, co62, eo62⟩ := Kd.R_slice HO200.out; subst eo62; obtain ⟨Ao63, co63, eo63⟩ := Kd.R_slice HO203.out; subst eo63; obtain ⟨Ao64, co64, eo64⟩ := Kd.R_slice HO206.out; subst eo64; obtain ⟨Ao65, co65, eo65⟩ := Kd.R_slice HO209.out; subst eo65) | ((with_reducible refine gate_callee (f := 11) rfl ?_); refine goesL_ (some 24) rfl rfl Try.func11 (by kernel_rfl) rfl #[.slice A0 l0.length c0] rfl (by (try simp only [List.map_toArray, List.map_cons, List.map_nil]); first | done | rfl | (simp only [List.length_drop, List.length_take]; rfl)) ?_; (with_reducible refine (quarrelref20_Get.calls k _ _ l0 t213 t214 t215 t216 t217 t218 t219 t222 t225 t228 t231 t232 _ ?side1 ?side2 A8.out).mono ?_); (case side1 => exact Kd.C_below HR0.out (by repeat (first | (with_reducible first | exact HB.out | apply bwA | apply bwN | apply bw1 | refine bwS ?_ GE212.out) | exact HB.out))); (case side2 => exact HC0.out); rintro e w66 ⟨v220, v223, v226, v229, rfl, ho0, ho1, ho2, ho3, hb⟩; refine ⟨_, rfl, ?_⟩; have n0_ := Aside0.mk (Kd.R_elder' (by (with_reducible repeat (first | apply Kd.R_alloc | apply Kd.R_drewN | apply Kd.R_drew)); exact (Kd.R_mono (Kd.R_far (p := ⟨gb212, 9, none⟩) (Kd.R_far (p := ⟨gb212, 8, none⟩) (Kd.R_far (p := ⟨gb212, 7, none⟩) (Kd.R_far (p := ⟨gb212, 6, none⟩) (Kd.R_far (p := ⟨gb212, 5, none⟩) (Kd.R_far (p := ⟨gb212, 4, none⟩) (Kd.R_far (p := ⟨gb212, 3, none⟩) (Kd.R_far (p := ⟨gb212, 2, none⟩) (Kd.R_far (p := ⟨gb212, 1, none⟩) (Kd.R_far (p := ⟨gb212, 0, none⟩) (Kd.R_types HO191.out BK212.out (by decide)) (fun _ hk => hk.2) (.int .i64 t192)) (fun _ hk => hk.2) (.int .i64 t193)) (fun _ hk => hk.2) (.int .i64 t194)) (fun _ hk => hk.2) (.int .i64 t195)) (fun _ hk => hk.2) (.int .i64 t196)) (fun _ hk => hk.2) (.int .i64 t197)) (fun _ hk => hk.2) (.slice Ao62 t198.length co62)) (fun _ hk => hk.2) (.slice Ao63 t201.length co63)) (fun _ hk => hk.2) (.slice Ao64 t204.length co64)) (fun _ hk => hk.2) (.slice Ao65 t207.length co65)) (fun _ h_ => h_.1))) (Kd.R_base ho1) hb); have n1_ := Aside0.mk (Kd.R_elder' (by (with_reducible repeat (first | apply Kd.R_alloc | apply Kd.R_drewN | apply Kd.R_drew)); exact (Kd.R_mono (Kd.R_far (p := ⟨gb212, 9, none⟩) (Kd.R_far (p := ⟨gb212, 8, none⟩) (Kd.R_far (p := ⟨gb212, 7, none⟩) (Kd.R_far (p := ⟨gb212, 6, none⟩) (Kd.R_far (p := ⟨gb212, 5, none⟩) (Kd.R_far (p := ⟨gb212, 4, none⟩) (Kd.R_far (p := ⟨gb212, 3, none⟩) (Kd.R_far (p := ⟨gb212, 2, none⟩) (Kd.R_far (p := ⟨gb212, 1, none⟩) (Kd.R_far (p := ⟨gb212, 0, none⟩) (Kd.R_types HO200.out BK212.out (by decide)) (fun _ hk => hk.2) (.int .i64 t192)) (fun _ hk => hk.2) (.int .i64 t193)) (fun _ hk => hk.2) (.int .i64 t194)) (fun _ hk => hk.2) (.int .i64 t195)) (fun _ hk => hk.2) (.int .i64 t196)) (fun _ hk => hk.2) (.int .i64 t197)) (fun _ hk => hk.2) (.slice Ao62 t198.length co62)) (fun _ hk => hk.2) (.slice Ao63 t201.length co63)) (fun _ hk => hk.2) (.slice Ao64 t204.length co64)) (fun _ hk => hk.2) (.slice Ao65 t207.length co65)) (fun _ h_ => h_.1))) (Kd.R_base ho0) hb); have n2_ := Aside0.mk (Kd.R_elder' (by (with_reducible repeat (first | apply Kd.R_alloc | apply Kd.R_drewN | apply Kd.R_drew)); exact (Kd.R_mono (Kd.R_far (p := ⟨gb212, 9, none⟩) (Kd.R_far (p := ⟨gb212, 8, none⟩) (Kd.R_far (p := ⟨gb212, 7, none⟩) (Kd.R_far (p := ⟨gb212, 6, none⟩) (Kd.R_far (p := ⟨gb212, 5, none⟩) (Kd.R_far (p := ⟨gb212, 4, none⟩) (Kd.R_far (p := ⟨gb212, 3, none⟩) (Kd.R_far (p := ⟨gb212, 2, none⟩) (Kd.R_far (p := ⟨gb212, 1, none⟩) (Kd.R_far (p := ⟨gb212, 0, none⟩) (Kd.R_types HO203.out BK212.out (by decide)) (fun _ hk => hk.2) (.int .i64 t192)) (fun _ hk => hk.2) (.int .i64 t193)) (fun _ hk => hk.2) (.int .i64 t194)) (fun _ hk => hk.2) (.int .i64 t195)) (fun _ hk => hk.2) (.int .i64 t196)) (fun _ hk => hk.2) (.int .i64 t197)) (fun _ hk => hk.2) (.slice Ao62 t198.length co62)) (fun _ hk => hk.2) (.slice Ao63 t201.length co63)) (fun _ hk => hk.2) (.slice Ao64 t204.length co64)) (fun _ hk => hk.2) (.slice Ao65 t207.length co65)) (fun _ h_ => h_.1))) (Kd.R_base ho1) hb); have n3_ := Aside0.mk (Kd.R_elder' (by (with_reducible repeat (first | apply Kd.R_alloc | apply Kd.R_drewN | apply Kd.R_drew)); exact (Kd.R_mono (Kd.R_far (p := ⟨gb212, 9, none⟩) (Kd.R_far (p := ⟨gb212, 8, none⟩) (Kd.R_far (p := ⟨gb212, 7, none⟩) (Kd.R_far (p := ⟨gb212, 6, none⟩) (Kd.R_far (p := ⟨gb212, 5, none⟩) (Kd.R_far (p := ⟨gb212, 4, none⟩) (Kd.R_far (p := ⟨gb212, 3, none⟩) (Kd.R_far (p := ⟨gb212, 2, none⟩) (Kd.R_far (p := ⟨gb212, 1, none⟩) (Kd.R_far (p := ⟨gb212, 0, none⟩) (Kd.R_types HO206.out BK212.out (by decide)) (fun _ hk => hk.2) (.int .i64 t192)) (fun _ hk => hk.2) (.int .i64 t193)) (fun _ hk => hk.2) (.int .i64 t194)) (fun _ hk => hk.2) (.int .i64 t195)) (fun _ hk => hk.2) (.int .i64 t196)) (fun _ hk => hk.2) (.int .i64 t197)) (fun _ hk => hk.2) (.slice Ao62 t198.length co62)) (fun _ hk => hk.2) (.slice Ao63 t201.length co63)) (fun _ hk => hk.2) (.slice Ao64 t204.length co64)) (fun _ hk => hk.2) (.slice Ao65 t207.length co65)) (fun _ h_ => h_.1))) (Kd.R_base ho2) hb); have n4_ := Aside0.mk (Kd.R_elder' (by (with_reducible repeat (first | apply Kd.R_alloc | apply Kd.R_drewN | apply Kd.R_drew)); exact (Kd.R_mono (Kd.R_far (p := ⟨gb212, 9, none⟩) (Kd.R_far (p := ⟨gb212, 8, none⟩) (Kd.R_far (p := ⟨gb212, 7, none⟩) (Kd.R_far (p := ⟨gb212, 6, none⟩) (Kd.R_far (p := ⟨gb212, 5, none⟩) (Kd.R_far (p := ⟨gb212, 4, none⟩) (Kd.R_far (p := ⟨gb212, 3, none⟩) (Kd.R_far (p := ⟨gb212, 2, none⟩) (Kd.R_far (p := ⟨gb212, 1, none⟩) (Kd.R_far (p := ⟨gb212, 0, none⟩) (Kd.R_types HO209.out BK212.out (by decide)) (fun _ hk => hk.2) (.int .i64 t192)) (fun _ hk => hk.2) (.int .i64 t193)) (fun _ hk => hk.2) (.int .i64 t194)) (fun _ hk => hk.2) (.int .i64 t195)) (fun _ hk => hk.2) (.int .i64 t196)) (fun _ hk => hk.2) (.int .i64 t197)) (fun _ hk => hk.2) (.slice Ao62 t198.length co62)) (fun _ hk => hk.2) (.slice Ao63 t201.length co63)) (fun _ hk => hk.2) (.slice Ao64 t204.length co64)) (fun _ hk => hk.2) (.slice Ao65 t207.length co65)) (fun _ h_ => h_.1))) (Kd.R_base ho3) hb); have n5_ := Aside0.mk (Kd.R_lower (Kd.R_new' ho0 (Kd.R_lt (by (with_reducible repeat (first | apply Kd.R_alloc | apply Kd.R_drewN | apply Kd.R_drew)); exact (Kd.R_mono (Kd.R_far (p := ⟨gb212, 9, none⟩) (Kd.R_far (p := ⟨gb212, 8, none⟩) (Kd.R_far (p := ⟨gb212, 7, none⟩) (Kd.R_far (p := ⟨gb212, 6, none⟩) (Kd.R_far (p := ⟨gb212, 5, none⟩) (Kd.R_far (p := ⟨gb212, 4, none⟩) (Kd.R_far (p := ⟨gb212, 3, none⟩) (Kd.R_far (p := ⟨gb212, 2, none⟩) (Kd.R_far (p := ⟨gb212, 1, none⟩) (Kd.R_far (p := ⟨gb212, 0, none⟩) (Kd.R_types HO200.out BK212.out (by decide)) (fun _ hk => hk.2) (.int .i64 t192)) (fun _ hk => hk.2) (.int .i64 t193)) (fun _ hk => hk.2) (.int .i64 t194)) (fun _ hk => hk.2) (.int .i64 t195)) (fun _ hk => hk.2) (.int .i64 t196)) (fun _ hk => hk.2) (.int .i64 t197)) (fun _ hk => hk.2) (.slice Ao62 t198.length co62)) (fun _ hk => hk.2) (.slice Ao63 t201.length co63)) (fun _ hk => hk.2) (.slice Ao64 t204.length co64)) (fun _ hk => hk.2) (.slice Ao65 t207.length co65)) (fun _ h_ => h_.1))))) (below_size (by repeat (first | (with_reducible first | exact HB.out | apply bwA | apply bwN | apply bw1 | refine bwS ?_ GE212.out) | exact HB.out)))); have n6_ := Aside0.mk (Kd.R_lower (Kd.R_new' (Kd.R_new' ho1 (Kd.R_lt (by (with_reducible repeat (first | apply Kd.R_alloc | apply Kd.R_drewN | apply Kd.R_drew)); exact (Kd.R_mono (Kd.R_far (p := ⟨gb212, 9, none⟩) (Kd.R_far (p := ⟨gb212, 8, none⟩) (Kd.R_far (p := ⟨gb212, 7, none⟩) (Kd.R_far (p := ⟨gb212, 6, none⟩) (Kd.R_far (p := ⟨gb212, 5, none⟩) (Kd.R_far (p := ⟨gb212, 4, none⟩) (Kd.R_far (p := ⟨gb212, 3, none⟩) (Kd.R_far (p := ⟨gb212, 2, none⟩) (Kd.R_far (p := ⟨gb212, 1, none⟩) (Kd.R_far (p := ⟨gb212, 0, none⟩) (Kd.R_types HO191.out BK212.out (by decide)) (fun _ hk => hk.2) (.int .i64 t192)) (fun _ hk => hk.2) (.int .i64 t193)) (fun _ hk => hk.2) (.int .i64 t194)) (fun _ hk => hk.2) (.int .i64 t195)) (fun _ hk => hk.2) (.int .i64 t196)) (fun _ hk => hk.2) (.int .i64 t197)) (fun _ hk => hk.2) (.slice Ao62 t198.length co62)) (fun _ hk => hk.2) (.slice Ao63 t201.length co63)) (fun _ hk => hk.2) (.slice Ao64 t204.length co64)) (fun _ hk => hk.2) (.slice Ao65 t207.length co65)) (fun _ h_ => h_.1))))) (Kd.R_lt (by (with_reducible repeat (first | apply Kd.R_alloc | apply Kd.R_drewN | apply Kd.R_drew)); exact (Kd.R_mono (Kd.R_far (p := ⟨gb212, 9, none⟩) (Kd.R_far (p := ⟨gb212, 8, none⟩) (Kd.R_far (p := ⟨gb212, 7, none⟩) (Kd.R_far (p := ⟨gb212, 6, none⟩) (Kd.R_far (p := ⟨gb212, 5, none⟩) (Kd.R_far (p := ⟨gb212, 4, none⟩) (Kd.R_far (p := ⟨gb212, 3, none⟩) (Kd.R_far (p := ⟨gb212, 2, none⟩) (Kd.R_far (p := ⟨gb212, 1, none⟩) (Kd.R_far (p := ⟨gb212, 0, none⟩) (Kd.R_types HO203.out BK212.out (by decide)) (fun _ hk => hk.2) (.int .i64 t192)) (fun _ hk => hk.2) (.int .i64 t193)) (fun _ hk => hk.2) (.int .i64 t194)) (fun _ hk => hk.2) (.int .i64 t195)) (fun _ hk => hk.2) (.int .i64 t196)) (fun _ hk => hk.2) (.int .i64 t197)) (fun _ hk => hk.2) (.slice Ao62 t198.length co62)) (fun _ hk => hk.2) (.slice Ao63 t201.length co63)) (fun _ hk => hk.2) (.slice Ao64 t204.length co64)) (fun _ hk => hk.2) (.slice Ao65 t207.length co65)) (fun _ h_ => h_.1))))) (below_size (by repeat (first | (with_reducible first | exact HB.out | apply bwA | apply bwN | apply bw1 | refine bwS ?_ GE212.out) | exact HB.out)))); have n7_ := Aside0.mk (Kd.R_lower (Kd.R_new' ho2 (Kd.R_lt (by (with_reducible repeat (first | apply Kd.R_alloc | apply Kd.R_drewN | apply Kd.R_drew)); exact (Kd.R_mono (Kd.R_far (p := ⟨gb212, 9, none⟩) (Kd.R_far (p := ⟨gb212, 8, none⟩) (Kd.R_far (p := ⟨gb212, 7, none⟩) (Kd.R_far (p := ⟨gb212, 6, none⟩) (Kd.R_far (p := ⟨gb212, 5, none⟩) (Kd.R_far (p := ⟨gb212, 4, none⟩) (Kd.R_far (p := ⟨gb212, 3, none⟩) (Kd.R_far (p := ⟨gb212, 2, none⟩) (Kd.R_far (p := ⟨gb212, 1, none⟩) (Kd.R_far (p := ⟨gb212, 0, none⟩) (Kd.R_types HO206.out BK212.out (by decide)) (fun _ hk => hk.2) (.int .i64 t192)) (fun _ hk => hk.2) (.int .i64 t193)) (fun _ hk => hk.2) (.int .i64 t194)) (fun _ hk => hk.2) (.int .i64 t195)) (fun _ hk => hk.2) (.int .i64 t196)) (fun _ hk => hk.2) (.int .i64 t197)) (fun _ hk => hk.2) (.slice Ao62 t198.length co62)) (fun _ hk => hk.2) (.slice Ao63 t201.length co63)) (fun _ hk => hk.2) (.slice Ao64 t204.length co64)) (fun _ hk => hk.2) (.slice Ao65 t207.length co65)) (fun _ h_ => h_.1))))) (below_size (by repeat (first | (with_reducible first | exact HB.out | apply bwA | apply bwN | apply bw1 | refine bwS ?_ GE212.out) | exact HB.out)))); have n8_ := Aside0.mk (Kd.R_lower (Kd.R_new' ho3 (Kd.R_lt (by (with_reducible repeat (first | apply Kd.R_alloc | apply Kd.R_drewN | apply Kd.R_drew)); exact (Kd.R_mono (Kd.R_far (p := ⟨gb212, 9, none⟩) (Kd.R_far (p := ⟨gb212, 8, none⟩) (Kd.R_far (p := ⟨gb212, 7, none⟩) (Kd.R_far (p := ⟨gb212, 6, none⟩) (Kd.R_far (p := ⟨gb212, 5, none⟩) (Kd.R_far (p := ⟨gb212, 4, none⟩) (Kd.R_far (p := ⟨gb212, 3, none⟩) (Kd.R_far (p := ⟨gb212, 2, none⟩) (Kd.R_far (p := ⟨gb212, 1, none⟩) (Kd.R_far (p := ⟨gb212, 0, none⟩) (Kd.R_types HO209.out BK212.out (by decide)) (fun _ hk => hk.2) (.int .i64 t192)) (fun _ hk => hk.2) (.int .i64 t193)) (fun _ hk => hk.2) (.int .i64 t194)) (fun _ hk => hk.2) (.int .i64 t195)) (fun _ hk => hk.2) (.int .i64 t196)) (fun _ hk => hk.2) (.int .i64 t197)) (fun _ hk => hk.2) (.slice Ao62 t198.length co62)) (fun _ hk => hk.2) (.slice Ao63 t201.length co63)) (fun _ hk => hk.2) (.slice Ao64 t204.length co64)) (fun _ hk => hk.2) (.slice Ao65 t207.length co65)) (fun _ h_ => h_.1))))) (below_size (by repeat (first | (with_reducible first | exact HB.out | apply bwA | apply bwN | apply bw1 | refine bwS ?_ GE212.out) | exact HB.out)))); have n9_ := Aside0.mk (blk_below (g := gb212) (o := .cells #[.int .i64 t192, .int .i64 t193, .int .i64 t194, .int .i64 t195, .int .i64 t196, .int .i64 t197, .slice Ao62 t198.length co62, .slice Ao63 t201.length co63, .slice Ao64 t204.length co64, .slice Ao65 t207.length co65] 30 (0, 0)) (by (with_reducible repeat (first | refine blk_drewN ?_ _ | refine blk_drew ?_ | refine blk_alloc ?_ _)); refine blk_put (cs := #[.int .i64 t192, .int .i64 t193, .int .i64 t194, .int .i64 t195, .int .i64 t196, .int .i64 t197, .slice Ao62 t198.length co62, .slice Ao63 t201.length co63, .slice Ao64 t204.length co64, .slice none 0 0]) ?_ 9 _ rfl; (with_reducible repeat (first | refine blk_drewN ?_ _ | refine blk_drew ?_ | refine blk_alloc ?_ _)); refine blk_put (cs := #[.int .i64 t192, .int .i64 t193, .int .i64 t194, .int .i64 t195, .int .i64 t196, .int .i64 t197, .slice Ao62 t198.length co62, .slice Ao63 t201.length co63, .slice none 0 0, .slice none 0 0]) ?_ 8 _ rfl; (with_reducible repeat (first | refine blk_drewN ?_ _ | refine blk_drew ?_ | refine blk_alloc ?_ _)); refine blk_put (cs := #[.int .i64 t192, .int .i64 t193, .int .i64 t194, .int .i64 t195, .int .i64 t196, .int .i64 t197, .slice Ao62 t198.length co62, .slice none 0 0, .slice none 0 0, .slice none 0 0]) ?_ 7 _ rfl; (with_reducible repeat (first | refine blk_drewN ?_ _ | refine blk_drew ?_ | refine blk_alloc ?_ _)); refine blk_put (cs := #[.int .i64 t192, .int .i64 t193, .int .i64 t194, .int .i64 t195, .int .i64 t196, .int .i64 t197, .slice none 0 0, .slice none 0 0, .slice none 0 0, .slice none 0 0]) ?_ 6 _ rfl; (with_reducible repeat (first | refine blk_drewN ?_ _ | refine blk_drew ?_ | refine blk_alloc ?_ _)); refine blk_put (cs := #[.int .i64 t192, .int .i64 t193, .int .i64 t194, .int .i64 t195, .int .i64 t196, .int .i64 0, .slice none 0 0, .slice none 0 0, .slice none 0 0, .slice none 0 0]) ?_ 5 _ rfl; (with_reducible repeat (first | refine blk_drewN ?_ _ | refine blk_drew ?_ | refine blk_alloc ?_ _)); refine blk_put (cs := #[.int .i64 t192, .int .i64 t193, .int .i64 t194, .int .i64 t195, .int .i64 0, .int .i64 0, .slice none 0 0, .slice none 0 0, .slice none 0 0, .slice none 0 0]) ?_ 4 _ rfl; (with_reducible repeat (first | refine blk_drewN ?_ _ | refine blk_drew ?_ | refine blk_alloc ?_ _)); refine blk_put (cs := #[.int .i64 t192, .int .i64 t193, .int .i64 t194, .int .i64 0, .int .i64 0, .int .i64 0, .slice none 0 0, .slice none 0 0, .slice none 0 0, .slice none 0 0]) ?_ 3 _ rfl; (with_reducible repeat (first | refine blk_drewN ?_ _ | refine blk_drew ?_ | refine blk_alloc ?_ _)); refine blk_put (cs := #[.int .i64 t192, .int .i64 t193, .int .i64 0, .int .i64 0, .int .i64 0, .int .i64 0, .slice none 0 0, .slice none 0 0, .slice none 0 0, .slice none 0 0]) ?_ 2 _ rfl; (with_reducible repeat (first | refine blk_drewN ?_ _ | refine blk_drew ?_ | refine blk_alloc ?_ _)); refine blk_put (cs := #[.int .i64 t192, .int .i64 0, .int .i64 0, .int .i64 0, .int .i64 0, .int .i64 0, .slice none 0 0, .slice none 0 0, .slice none 0 0, .slice none 0 0]) ?_ 1 _ rfl; (with_reducible repeat (first | refine blk_drewN ?_ _ | refine blk_drew ?_ | refine blk_alloc ?_ _)); refine blk_put (cs := #[.int .i64 0, .int .i64 0, .int .i64 0, .int .i64 0, .int .i64 0, .int .i64 0, .slice none 0 0, .slice none 0 0, .slice none 0 0, .slice none 0 0]) ?_ 0 _ rfl; (with_reducible repeat (first | refine blk_drewN ?_ _ | refine blk_drew ?_ | refine blk_alloc ?_ _)); exact BK212.out) hb); have n10_ := Aside0.mk (below_step (by repeat (first | (with_reducible first | exact HB.out | apply bwA | apply bwN | apply bw1 | refine bwS ?_ GE212.out) | exact HB.out)) hb); clear HO191; clear HO200; clear HO203; clear HO206; clear HO209; clear BK212; clear HB; have HO191 := n0_; have HO200 := n1_; have HO203 := n2_; have HO206 := n3_; have HO209 := n4_; have HO221 := n5_; have HO224 := n6_; have HO227 := n7_; have HO230 := n8_; have BK212 := n9_; have HB := n10_; clear n0_ n1_ n2_ n3_ n4_ n5_ n6_ n7_ n8_ n9_ n10_; (try clear hb); (try clear hb2); (try clear hk); (try clear hi); (try clear ho0); (try clear ho1); (try clear ho2); (try clear ho3)) | ((with_reducible refine gate_dst (N := 6) rfl ?_); refine box_event ?hg (N := 6) ?hd (cs := #[.int .i64 0, .int .i64 0, .int .i64 0, .int .i64 0, .int .i64 0, .int .i64 0, .slice none 0 0, .slice none 0 0, .slice none 0 0, .slice none 0 0]) (t := 34) ?hr ?_; (case hd => rfl); (case hg => rfl); (case hr => first | (go_simp; done) | (go_simp; rfl)); intro gb233 hg w67 hbox hb; have n0_ := Aside0.mk (Kd.R_below (by (with_reducible repeat (first | apply Kd.R_alloc | apply Kd.R_drewN | apply Kd.R_drew)); exact HO191.out) hb); have n1_ := Aside0.mk (Kd.R_below (by (with_reducible repeat (first | apply Kd.R_alloc | apply Kd.R_drewN | apply Kd.R_drew)); exact HO200.out) hb); have n2_ := Aside0.mk (Kd.R_below (by (with_reducible repeat (first | apply Kd.R_alloc | apply Kd.R_drewN | apply Kd.R_drew)); exact HO203.out) hb); have n3_ := Aside0.mk (Kd.R_below (by (with_reducible repeat (first | apply Kd.R_alloc | apply Kd.R_drewN | apply Kd.R_drew)); exact HO206.out) hb); have n4_ := Aside0.mk (Kd.R_below (by (with_reducible repeat (first | apply Kd.R_alloc | apply Kd.R_drewN | apply Kd.R_drew)); exact HO209.out) hb); have n5_ := Aside0.mk (Kd.R_below (by (with_reducible repeat (first | apply Kd.R_alloc | apply Kd.R_drewN | apply Kd.R_drew)); exact HO221.out) hb); have n6_ := Aside0.mk (Kd.R_below (by (with_reducible repeat (first | apply Kd.R_alloc | apply Kd.R_drewN | apply Kd.R_drew)); exact HO224.out) hb); have n7_ := Aside0.mk (Kd.R_below (by (with_reducible repeat (first | apply Kd.R_alloc | apply Kd.R_drewN | apply Kd.R_drew)); exact HO227.out) hb); have n8_ := Aside0.mk (Kd.R_below (by (with_reducible repeat (first | apply Kd.R_alloc | apply Kd.R_drewN | apply Kd.R_drew)); exact HO230.out) hb); have n9_ := Aside0.mk (blk_below (g := gb212) (o := .cells #[.int .i64 t192, .int .i64 t193, .int .i64 t194, .int .i64 t195, .int .i64 t196, .int .i64 t197, .slice Ao62 t198.length co62, .slice Ao63 t201.length co63, .slice Ao64 t204.length co64, .slice Ao65 t207.length co65] 30 (0, 0)) (by (with_reducible repeat (first | refine blk_drewN ?_ _ | refine blk_drew ?_ | refine blk_alloc ?_ _)); exact BK212.out) hb); have n10_ := Aside0.mk (below_step (by repeat (first | (with_reducible first | exact HB.out | apply bwA | apply bwN | apply bw1 | refine bwS ?_ GE212.out) | exact HB.out)) hb); have n11_ := Aside0.mk (hbox); have n12_ := Aside0.mk ((by rw [hg]; exact (below_size (by repeat (first | (with_reducible first | exact HB.out | apply bwA | apply bwN | apply bw1 | refine bwS ?_ GE212.out) | exact HB.out))) : w.heap.size ≤ gb233)); have n13_ := Aside0.mk ((by rw [hg]; exact (below_size (by repeat (first | (with_reducible first | exact HB.out | apply bwA | apply bwN | apply bw1 | refine bwS ?_ GE212.out) | exact HB.out))) : w.heap.size ≤ gb233)); have n14_ := Aside0.mk ((by rw [hg]; exact Nat.ne_of_lt (blk_lt (g := gb212) (o := .cells #[.int .i64 t192, .int .i64 t193, .int .i64 t194, .int .i64 t195, .int .i64 t196, .int .i64 t197, .slice Ao62 t198.length co62, .slice Ao63 t201.length co63, .slice Ao64 t204.length co64, .slice Ao65 t207.length co65] 30 (0, 0)) (by (with_reducible repeat (first | refine blk_drewN ?_ _ | refine blk_drew ?_ | refine blk_alloc ?_ _)); exact BK212.out)) : gb212 ≠ gb233)); have n15_ := Aside0.mk ((by rw [hg]; exact Nat.ne_of_gt (blk_lt (g := gb212) (o := .cells #[.int .i64 t192, .int .i64 t193, .int .i64 t194, .int .i64 t195, .int .i64 t196, .int .i64 t197, .slice Ao62 t198.length co62, .slice Ao63 t201.length co63, .slice Ao64 t204.length co64, .slice Ao65 t207.length co65] 30 (0, 0)) (by (with_reducible repeat (first | refine blk_drewN ?_ _ | refine blk_drew ?_ | refine blk_alloc ?_ _)); exact BK212.out)) : gb233 ≠ gb212)); clear HO191; clear HO200; clear HO203; clear HO206; clear HO209; clear HO221; clear HO224; clear HO227; clear HO230; clear BK212; clear HB; have HO191 := n0_; have HO200 := n1_; have HO203 := n2_; have HO206 := n3_; have HO209 := n4_; have HO221 := n5_; have HO224 := n6_; have HO227 := n7_; have HO230 := n8_; have BK212 := n9_; have HB := n10_; have BK233 := n11_; have GW233 := n12_; have GE233 := n13_; have NB212_233 := n14_; have NB233_212 := n15_; clear n0_ n1_ n2_ n3_ n4_ n5_ n6_ n7_ n8_ n9_ n10_ n11_ n12_ n13_ n14_ n15_; clear hb hbox hg; have hnb68 := NB233_212.out; have hnc68 := NB212_233.out; obtain ⟨hcz69_0, hcz69_1, hcz69_2, hcz69_3, hcz69_4, hcz69_5, hcz69_6, hcz69_7, hcz69_8, hcz69_9, hfz69_0, hfz69_1, hfz69_2, hfz69_3, hfz69_4, hfz69_5, hfz69_6, hfz69_7, hfz69_8, hfz69_9⟩ := cf10 BK233.out; obtain ⟨Ao70, co70, eo70⟩ := Kd.R_slice HO221.out; subst eo70; obtain ⟨Ao71, co71, eo71⟩ := Kd.R_slice HO224.out; subst eo71; obtain ⟨Ao72, co72, eo72⟩ := Kd.R_slice HO227.out; subst eo72; obtain ⟨Ao73, co73, eo73⟩ := Kd.R_slice HO230.out; subst eo73))
     go_ret
     exact ⟨by first | rfl | (simp [errW_none, errW_some] <;> rfl) | (simp [*, errW_none, errW_some] <;> rfl), by repeat (first | (with_reducible first | exact HB.out | apply bwA | apply bwN | apply bw1 | refine bwS ?_ GE212.out | refine bwS ?_ GE233.out) | exact HB.out)⟩
   ·rw [if_neg c6] at H
    exact absurd H (by simp)
 ·replace c3 := Bool.eq_false_iff.mpr c3
  subst c3
  have H1 : (some false) = some r := by rw [if_neg (show ¬ (false = true) by decide)] at H; exact H
  clear H
  have H := H1
  clear H1
  obtain rfl := Option.some.inj H
  go_enter Try.func3, Try.ntmps3
  go_wp2_with (first | ((with_reducible refine gate_callee (f := 9) rfl ?_); refine goesL_ (some 9) rfl rfl Try.func9 (by kernel_rfl) rfl #[] rfl (by (try simp only [List.map_toArray, List.map_cons, List.map_nil]); first | done | rfl | (simp only [List.length_drop, List.length_take]; rfl)) ?_; (with_reducible refine (quarrellaw20_alive.calls k  false _ A2.out).mono ?_); rintro e w74 ⟨rfl, hb⟩; refine ⟨_, rfl, ?_⟩; have n0_ := Aside0.mk (below_step (by repeat (first | (with_reducible first | exact HB.out | apply bwA | apply bwN | apply bw1) | exact HB.out)) hb); clear HB; have HB := n0_; clear n0_; (try clear hb); (try clear hb2); (try clear hk); (try clear hi)))
  go_ret
  exact ⟨by first | rfl | (simp [errW_none, errW_some] <;> rfl) | (simp [*, errW_none, errW_some] <;> rfl), by repeat (first | (with_reducible first | exact HB.out | apply bwA | apply bwN | apply bw1) | exact HB.out)⟩
/-- THE ONE PURE STATEMENT of quarrellaw20_ScriptReads: yours. -/
def quarrellaw20_ScriptReads.Pure : Prop := ∀ (l0 : List Int), l0.length ≤ maxLen → l0.length * 1 ≤ 140737488351232 → (∀ x ∈ l0, (Lit.int .u8 x).wf = true) → ∃ k, quarrellaw20_ScriptReads.f k l0 = some true
theorem quarrellaw20_ScriptReads.walk (P : quarrellaw20_ScriptReads.Pure) (a0 : Option Addr) (len0 cap0 : Nat) (z0 : List Int) (w : World) (w0 : (a0 = none ∧ len0 = 0 ∧ cap0 = 0 ∧ z0 = []) ∨ ∃ x, a0 = some x ∧ len0 ≤ cap0 ∧ cap0 ≤ maxLen ∧ z0.length = cap0 ∧ (∀ i, i < z0.length → w.cell? (x.add i) = some (.int .u8 (z0.getD i 0))) ∧ ∀ n ∈ z0, (Lit.int .u8 n).wf = true) (y0 : len0 * 1 ≤ 140737488351232) :
  Calls Try.prog 3 #[.slice a0 len0 cap0] w fun e w' => e = .returned (.bool true) ∧ Below w.heap.size w w' := by
 obtain ⟨l0, rfl, hr0, hm0, hw0, hc0⟩ := ReadsInt.ofRowC w0
 obtain ⟨k, h⟩ := P l0 hm0 y0 hw0
 refine (quarrellaw20_ScriptReads.calls k _ _ l0 true w (Kd.C_of_reads (d := (0 : Int)) (h1 := fun _ => rfl) hr0) hc0 h).mono ?_
 rintro e w' ⟨rfl, hd⟩
 exact ⟨rfl, hd⟩
end Go.Proofs.Ythfkgnkojhocbaa.S
end
section
namespace Go.Proofs.Ythfkgnkojhocbaa.S
open Go Go.RowKit Go.Proofs.YthfkgnkojhocbaaW.PrintWords Go.Proofs.YthfkgnkojhocbaaW.PrintLast
set_option linter.unusedVariables false
set_option linter.unusedSimpArgs false
/-- The place of the first that may not be, or -1. -/
def idxN {α : Type} (p : α → Bool) (l : List α) : Int := match l.findIdx? (fun o => !(p o)) with | some i => (i : Int) | none => -1
theorem idxN_hit {α : Type} (p : α → Bool) (l : List α) (k : Nat) (hk : k < l.length) (h : p l[k] = false) (hb : ∀ j (hj : j < k), p (l[j]'(by omega)) = true) : idxN p l = k := by
  have : l.findIdx? (fun o => !(p o)) = some k := by
    rw [List.findIdx?_eq_some_iff_getElem]
    exact ⟨hk, by simp [h], fun j hj => by simp [hb j hj]⟩
  simp [idxN, this]
theorem idxN_miss {α : Type} (p : α → Bool) (l : List α) (hb : ∀ j (hj : j < l.length), p (l[j]'(by omega)) = true) : idxN p l = -1 := by
  have : l.findIdx? (fun o => !(p o)) = none := by
    rw [List.findIdx?_eq_none_iff]
    intro x hx
    obtain ⟨i, hi, rfl⟩ := List.getElem_of_mem hx
    simp [hb i hi]
  simp [idxN, this]
theorem idxN_all {α : Type} (p : α → Bool) (l : List α) : decide (0 ≤ idxN p l) = !(l.all p) := by
  unfold idxN
  split
  · rename_i i h
    rw [List.findIdx?_eq_some_iff_getElem] at h
    obtain ⟨hi, h1, _⟩ := h
    have : l.all p = false := by
      rw [List.all_eq_false]
      exact ⟨l[i], List.getElem_mem hi, by simpa using h1⟩
    simp [this]
  · rename_i h
    rw [List.findIdx?_eq_none_iff] at h
    have : l.all p = true := by
      rw [List.all_eq_true]
      intro x hx
      simpa using h x hx
    simp [this]
set_option maxHeartbeats 8000000 in
theorem in64.idx (p : Int → Bool) (B1 : Nat) (B2 : Nat) (A0 : Option Addr) (c0 : Nat) (l0 : List (Int)) (w : World) (hr0 : Kd.C (Kd.int .i64) w A0 l0.length l0) (hc : ∀ x ∈ l0, ∀ (W : World), Below w.heap.size w W → Calls Try.prog 48 #[.int .i64 x, .pointer (some ⟨B1, 0, none⟩), .pointer (some ⟨B2, 0, none⟩)] W fun e W' => e = .returned (.bool (!(p x))) ∧ Below W.heap.size W W') :
    Calls Try.prog 56 #[.slice A0 l0.length c0, .func (.func 48) #[] #[.pointer (some ⟨B1, 0, none⟩), .pointer (some ⟨B2, 0, none⟩)]] w fun e w' => e = .returned (.int .i64 (idxN p l0)) ∧ Below w.heap.size w w' := by
  have hmax : l0.length ≤ 9223372036854775807 := Kd.C_max hr0
  have HR := Aside0.mk hr0
  have HC := Aside0.mk hc
  clear hr0 hc
  go_enter Try.func56, Try.ntmps56
  go_wp2
  go_loopg [5, 8] l0.length (fun gg _ s8 wr => ∃ kk : Nat, kk ≤ l0.length ∧ l0.length - kk ≤ gg ∧ s8 = .int .i64 kk ∧ Aside0 (Below w.heap.size w wr) ∧ Aside0 (∀ j (hj : j < kk) (hl : j < l0.length), p l0[j] = true))
  case atStart => exact ⟨0, Nat.zero_le _, by omega, rfl, ⟨Below.refl _ w⟩, ⟨fun j hj => absurd hj (Nat.not_lt_zero _)⟩⟩
  case round =>
    obtain ⟨kk, hkk, hg, rfl, HB, A⟩ := hrel
    by_cases hlt : kk < l0.length
    · have hltz : (kk : Int) < (l0.length : Int) := by omega
      obtain ⟨ad, ea, h0⟩ := Kd.at_int HR.out (kk : Int) (by omega) (by omega)
      subst ea
      have hrd : rd l0 (kk : Int) = l0[kk] := by simp [rd, hlt]
      rw [hrd] at h0
      replace h0 := (HB.out.cell (World.block_lt_of_cell? w _ h0)).trans h0
      simp only [Int.toNat_natCast] at h0
      have hcall := HC.out l0[kk] (List.getElem_mem hlt) wr HB.out
      clear hrd
      generalize hx : l0[kk] = x at h0 hcall
      have X := Aside0.mk hx
      clear hx
      cases hq : p x with
      | true =>
        rw [hq] at hcall
        go_wp2_with (go_at_call 48; refine hcall.mono ?_; rintro e w' ⟨rfl, hb'⟩)
        go_roundg (l0.length - (kk + 1))
        case measure => omega
        case rel =>
          refine ⟨kk + 1, by omega, by omega, by go_num, ⟨below_step HB.out hb'⟩, ⟨fun j hj hl => ?_⟩⟩
          by_cases e : j = kk
          · subst e
            rw [X.out]; exact hq
          · exact A.out j (by omega) hl
      | false =>
        rw [hq] at hcall
        go_wp2_with (go_at_call 48; refine hcall.mono ?_; rintro e w' ⟨rfl, hb'⟩)
        go_ret
        refine ⟨?_, below_step HB.out hb'⟩
        rw [idxN_hit p l0 kk hlt (by rw [X.out]; exact hq) (fun j hj => A.out j hj (by omega))]; rfl
    · have hltz : ¬ (kk : Int) < (l0.length : Int) := by omega
      have : kk = l0.length := by omega
      subst this
      go_wp2
      go_ret
      refine ⟨?_, HB.out⟩
      rw [idxN_miss p l0 (fun j hj => A.out j hj hj)]; rfl
set_option maxHeartbeats 8000000 in
theorem in64.cont (p : Int → Bool) (B1 : Nat) (B2 : Nat) (A0 : Option Addr) (c0 : Nat) (l0 : List (Int)) (w : World) (hr0 : Kd.C (Kd.int .i64) w A0 l0.length l0) (hc : ∀ x ∈ l0, ∀ (W : World), Below w.heap.size w W → Calls Try.prog 48 #[.int .i64 x, .pointer (some ⟨B1, 0, none⟩), .pointer (some ⟨B2, 0, none⟩)] W fun e W' => e = .returned (.bool (!(p x))) ∧ Below W.heap.size W W') :
    Calls Try.prog 47 #[.slice A0 l0.length c0, .func (.func 48) #[] #[.pointer (some ⟨B1, 0, none⟩), .pointer (some ⟨B2, 0, none⟩)]] w fun e w' => e = .returned (.bool (!(l0.all p))) ∧ Below w.heap.size w w' := by
  have H := in64.idx p B1 B2 A0 c0 l0 w hr0 hc
  have E := Aside0.mk (idxN_all p l0)
  clear hr0 hc
  generalize idxN p l0 = r at H E
  go_enter Try.func47, Try.ntmps47
  go_wp2_with (go_at_call 56; refine H.mono ?_; rintro e w' ⟨rfl, hb'⟩)
  go_ret
  exact ⟨by rw [← E.out]; rfl, hb'⟩
set_option maxHeartbeats 8000000 in
theorem inT.idx (p : Int → Bool) (B1 : Nat) (B2 : Nat) (A0 : Option Addr) (c0 : Nat) (l0 : List (Int)) (w : World) (hr0 : Kd.C (Kd.int .i64) w A0 l0.length l0) (hc : ∀ x ∈ l0, ∀ (W : World), Below w.heap.size w W → Calls Try.prog 50 #[.int .i64 x, .pointer (some ⟨B1, 0, none⟩), .pointer (some ⟨B2, 0, none⟩)] W fun e W' => e = .returned (.bool (!(p x))) ∧ Below W.heap.size W W') :
    Calls Try.prog 57 #[.slice A0 l0.length c0, .func (.func 50) #[] #[.pointer (some ⟨B1, 0, none⟩), .pointer (some ⟨B2, 0, none⟩)]] w fun e w' => e = .returned (.int .i64 (idxN p l0)) ∧ Below w.heap.size w w' := by
  have hmax : l0.length ≤ 9223372036854775807 := Kd.C_max hr0
  have HR := Aside0.mk hr0
  have HC := Aside0.mk hc
  clear hr0 hc
  go_enter Try.func57, Try.ntmps57
  go_wp2
  go_loopg [5, 8] l0.length (fun gg _ s8 wr => ∃ kk : Nat, kk ≤ l0.length ∧ l0.length - kk ≤ gg ∧ s8 = .int .i64 kk ∧ Aside0 (Below w.heap.size w wr) ∧ Aside0 (∀ j (hj : j < kk) (hl : j < l0.length), p l0[j] = true))
  case atStart => exact ⟨0, Nat.zero_le _, by omega, rfl, ⟨Below.refl _ w⟩, ⟨fun j hj => absurd hj (Nat.not_lt_zero _)⟩⟩
  case round =>
    obtain ⟨kk, hkk, hg, rfl, HB, A⟩ := hrel
    by_cases hlt : kk < l0.length
    · have hltz : (kk : Int) < (l0.length : Int) := by omega
      obtain ⟨ad, ea, h0⟩ := Kd.at_int HR.out (kk : Int) (by omega) (by omega)
      subst ea
      have hrd : rd l0 (kk : Int) = l0[kk] := by simp [rd, hlt]
      rw [hrd] at h0
      replace h0 := (HB.out.cell (World.block_lt_of_cell? w _ h0)).trans h0
      simp only [Int.toNat_natCast] at h0
      have hcall := HC.out l0[kk] (List.getElem_mem hlt) wr HB.out
      clear hrd
      generalize hx : l0[kk] = x at h0 hcall
      have X := Aside0.mk hx
      clear hx
      cases hq : p x with
      | true =>
        rw [hq] at hcall
        go_wp2_with (go_at_call 50; refine hcall.mono ?_; rintro e w' ⟨rfl, hb'⟩)
        go_roundg (l0.length - (kk + 1))
        case measure => omega
        case rel =>
          refine ⟨kk + 1, by omega, by omega, by go_num, ⟨below_step HB.out hb'⟩, ⟨fun j hj hl => ?_⟩⟩
          by_cases e : j = kk
          · subst e
            rw [X.out]; exact hq
          · exact A.out j (by omega) hl
      | false =>
        rw [hq] at hcall
        go_wp2_with (go_at_call 50; refine hcall.mono ?_; rintro e w' ⟨rfl, hb'⟩)
        go_ret
        refine ⟨?_, below_step HB.out hb'⟩
        rw [idxN_hit p l0 kk hlt (by rw [X.out]; exact hq) (fun j hj => A.out j hj (by omega))]; rfl
    · have hltz : ¬ (kk : Int) < (l0.length : Int) := by omega
      have : kk = l0.length := by omega
      subst this
      go_wp2
      go_ret
      refine ⟨?_, HB.out⟩
      rw [idxN_miss p l0 (fun j hj => A.out j hj hj)]; rfl
set_option maxHeartbeats 8000000 in
theorem inT.cont (p : Int → Bool) (B1 : Nat) (B2 : Nat) (A0 : Option Addr) (c0 : Nat) (l0 : List (Int)) (w : World) (hr0 : Kd.C (Kd.int .i64) w A0 l0.length l0) (hc : ∀ x ∈ l0, ∀ (W : World), Below w.heap.size w W → Calls Try.prog 50 #[.int .i64 x, .pointer (some ⟨B1, 0, none⟩), .pointer (some ⟨B2, 0, none⟩)] W fun e W' => e = .returned (.bool (!(p x))) ∧ Below W.heap.size W W') :
    Calls Try.prog 49 #[.slice A0 l0.length c0, .func (.func 50) #[] #[.pointer (some ⟨B1, 0, none⟩), .pointer (some ⟨B2, 0, none⟩)]] w fun e w' => e = .returned (.bool (!(l0.all p))) ∧ Below w.heap.size w w' := by
  have H := inT.idx p B1 B2 A0 c0 l0 w hr0 hc
  have E := Aside0.mk (idxN_all p l0)
  clear hr0 hc
  generalize idxN p l0 = r at H E
  go_enter Try.func49, Try.ntmps49
  go_wp2_with (go_at_call 57; refine H.mono ?_; rintro e w' ⟨rfl, hb'⟩)
  go_ret
  exact ⟨by rw [← E.out]; rfl, hb'⟩
set_option maxHeartbeats 8000000 in
theorem inOps.idx (p : List S80 → Bool) (B1 : Nat) (A0 : Option Addr) (c0 : Nat) (l0 : List (List S80)) (w : World) (hr0 : Kd.C (Kd.slice 80 k80) w A0 l0.length l0) (hc : ∀ x ∈ l0, ∀ (A : Option Addr) (c : Nat) (W : World), Below w.heap.size w W → k80.C W A x.length x → x.length ≤ c → Calls Try.prog 53 #[.slice A x.length c, .pointer (some ⟨B1, 0, none⟩)] W fun e W' => e = .returned (.bool (!(p x))) ∧ Below W.heap.size W W') :
    Calls Try.prog 58 #[.slice A0 l0.length c0, .func (.func 53) #[] #[.pointer (some ⟨B1, 0, none⟩)]] w fun e w' => e = .returned (.int .i64 (idxN p l0)) ∧ Below w.heap.size w w' := by
  have hmax : l0.length ≤ 9223372036854775807 := Kd.C_max hr0
  have HR := Aside0.mk hr0
  have HC := Aside0.mk hc
  clear hr0 hc
  go_enter Try.func58, Try.ntmps58
  go_wp2
  go_loopg [5, 8] l0.length (fun gg _ s8 wr => ∃ kk : Nat, kk ≤ l0.length ∧ l0.length - kk ≤ gg ∧ s8 = .int .i64 kk ∧ Aside0 (Below w.heap.size w wr) ∧ Aside0 (∀ j (hj : j < kk) (hl : j < l0.length), p l0[j] = true))
  case atStart => exact ⟨0, Nat.zero_le _, by omega, rfl, ⟨Below.refl _ w⟩, ⟨fun j hj => absurd hj (Nat.not_lt_zero _)⟩⟩
  case round =>
    obtain ⟨kk, hkk, hg, rfl, HB, A⟩ := hrel
    by_cases hlt : kk < l0.length
    · have hltz : (kk : Int) < (l0.length : Int) := by omega
      obtain ⟨ad, c, ea, _, hK, hc0⟩ := Kd.C_get HR.out [] (kk : Int) (by omega) (by omega)
      have hq : ∀ j u, c[j]? = some u → w.cell? (ad.add ((kk : Int).toNat * 1 + j)) = some u := hc0
      obtain ⟨A1, c1, rfl, hl1, hC1⟩ := hK
      subst ea
      have h0 := hq 0 _ rfl
      rw [Nat.mul_one, Nat.add_zero] at h0
      have hrd : l0.getD (kk : Int).toNat [] = l0[kk] := by simp [hlt]
      rw [hrd] at h0 hl1 hC1
      clear hq hc0
      replace h0 := (HB.out.cell (World.block_lt_of_cell? w _ h0)).trans h0
      simp only [Int.toNat_natCast] at h0
      have hcall := HC.out l0[kk] (List.getElem_mem hlt) A1 c1 wr HB.out (Kd.C_below hC1 HB.out) hl1
      clear hrd hl1 hC1
      generalize hx : l0[kk] = x at h0 hcall
      have X := Aside0.mk hx
      clear hx
      cases hq : p x with
      | true =>
        rw [hq] at hcall
        go_wp2_with (go_at_call 53; refine hcall.mono ?_; rintro e w' ⟨rfl, hb'⟩)
        go_roundg (l0.length - (kk + 1))
        case measure => omega
        case rel =>
          refine ⟨kk + 1, by omega, by omega, by go_num, ⟨below_step HB.out hb'⟩, ⟨fun j hj hl => ?_⟩⟩
          by_cases e : j = kk
          · subst e
            rw [X.out]; exact hq
          · exact A.out j (by omega) hl
      | false =>
        rw [hq] at hcall
        go_wp2_with (go_at_call 53; refine hcall.mono ?_; rintro e w' ⟨rfl, hb'⟩)
        go_ret
        refine ⟨?_, below_step HB.out hb'⟩
        rw [idxN_hit p l0 kk hlt (by rw [X.out]; exact hq) (fun j hj => A.out j hj (by omega))]; rfl
    · have hltz : ¬ (kk : Int) < (l0.length : Int) := by omega
      have : kk = l0.length := by omega
      subst this
      go_wp2
      go_ret
      refine ⟨?_, HB.out⟩
      rw [idxN_miss p l0 (fun j hj => A.out j hj hj)]; rfl
set_option maxHeartbeats 8000000 in
theorem inOps.cont (p : List S80 → Bool) (B1 : Nat) (A0 : Option Addr) (c0 : Nat) (l0 : List (List S80)) (w : World) (hr0 : Kd.C (Kd.slice 80 k80) w A0 l0.length l0) (hc : ∀ x ∈ l0, ∀ (A : Option Addr) (c : Nat) (W : World), Below w.heap.size w W → k80.C W A x.length x → x.length ≤ c → Calls Try.prog 53 #[.slice A x.length c, .pointer (some ⟨B1, 0, none⟩)] W fun e W' => e = .returned (.bool (!(p x))) ∧ Below W.heap.size W W') :
    Calls Try.prog 52 #[.slice A0 l0.length c0, .func (.func 53) #[] #[.pointer (some ⟨B1, 0, none⟩)]] w fun e w' => e = .returned (.bool (!(l0.all p))) ∧ Below w.heap.size w w' := by
  have H := inOps.idx p B1 A0 c0 l0 w hr0 hc
  have E := Aside0.mk (idxN_all p l0)
  clear hr0 hc
  generalize idxN p l0 = r at H E
  go_enter Try.func52, Try.ntmps52
  go_wp2_with (go_at_call 58; refine H.mono ?_; rintro e w' ⟨rfl, hb'⟩)
  go_ret
  exact ⟨by rw [← E.out]; rfl, hb'⟩
set_option maxHeartbeats 8000000 in
theorem inTx.idx (p : List (List S80) → Bool) (B1 : Nat) (A0 : Option Addr) (c0 : Nat) (l0 : List (List (List S80))) (w : World) (hr0 : Kd.C (Kd.slice 61 (Kd.slice 80 k80)) w A0 l0.length l0) (hc : ∀ x ∈ l0, ∀ (A : Option Addr) (c : Nat) (W : World), Below w.heap.size w W → (Kd.slice 80 k80).C W A x.length x → x.length ≤ c → Calls Try.prog 38 #[.slice A x.length c, .pointer (some ⟨B1, 0, none⟩)] W fun e W' => e = .returned (.bool (!(p x))) ∧ Below W.heap.size W W') :
    Calls Try.prog 51 #[.slice A0 l0.length c0, .func (.func 38) #[] #[.pointer (some ⟨B1, 0, none⟩)]] w fun e w' => e = .returned (.int .i64 (idxN p l0)) ∧ Below w.heap.size w w' := by
  have hmax : l0.length ≤ 9223372036854775807 := Kd.C_max hr0
  have HR := Aside0.mk hr0
  have HC := Aside0.mk hc
  clear hr0 hc
  go_enter Try.func51, Try.ntmps51
  go_wp2
  go_loopg [5, 8] l0.length (fun gg _ s8 wr => ∃ kk : Nat, kk ≤ l0.length ∧ l0.length - kk ≤ gg ∧ s8 = .int .i64 kk ∧ Aside0 (Below w.heap.size w wr) ∧ Aside0 (∀ j (hj : j < kk) (hl : j < l0.length), p l0[j] = true))
  case atStart => exact ⟨0, Nat.zero_le _, by omega, rfl, ⟨Below.refl _ w⟩, ⟨fun j hj => absurd hj (Nat.not_lt_zero _)⟩⟩
  case round =>
    obtain ⟨kk, hkk, hg, rfl, HB, A⟩ := hrel
    by_cases hlt : kk < l0.length
    · have hltz : (kk : Int) < (l0.length : Int) := by omega
      obtain ⟨ad, c, ea, _, hK, hc0⟩ := Kd.C_get HR.out [] (kk : Int) (by omega) (by omega)
      have hq : ∀ j u, c[j]? = some u → w.cell? (ad.add ((kk : Int).toNat * 1 + j)) = some u := hc0
      obtain ⟨A1, c1, rfl, hl1, hC1⟩ := hK
      subst ea
      have h0 := hq 0 _ rfl
      rw [Nat.mul_one, Nat.add_zero] at h0
      have hrd : l0.getD (kk : Int).toNat [] = l0[kk] := by simp [hlt]
      rw [hrd] at h0 hl1 hC1
      clear hq hc0
      replace h0 := (HB.out.cell (World.block_lt_of_cell? w _ h0)).trans h0
      simp only [Int.toNat_natCast] at h0
      have hcall := HC.out l0[kk] (List.getElem_mem hlt) A1 c1 wr HB.out (Kd.C_below hC1 HB.out) hl1
      clear hrd hl1 hC1
      generalize hx : l0[kk] = x at h0 hcall
      have X := Aside0.mk hx
      clear hx
      cases hq : p x with
      | true =>
        rw [hq] at hcall
        go_wp2_with (go_at_call 38; refine hcall.mono ?_; rintro e w' ⟨rfl, hb'⟩)
        go_roundg (l0.length - (kk + 1))
        case measure => omega
        case rel =>
          refine ⟨kk + 1, by omega, by omega, by go_num, ⟨below_step HB.out hb'⟩, ⟨fun j hj hl => ?_⟩⟩
          by_cases e : j = kk
          · subst e
            rw [X.out]; exact hq
          · exact A.out j (by omega) hl
      | false =>
        rw [hq] at hcall
        go_wp2_with (go_at_call 38; refine hcall.mono ?_; rintro e w' ⟨rfl, hb'⟩)
        go_ret
        refine ⟨?_, below_step HB.out hb'⟩
        rw [idxN_hit p l0 kk hlt (by rw [X.out]; exact hq) (fun j hj => A.out j hj (by omega))]; rfl
    · have hltz : ¬ (kk : Int) < (l0.length : Int) := by omega
      have : kk = l0.length := by omega
      subst this
      go_wp2
      go_ret
      refine ⟨?_, HB.out⟩
      rw [idxN_miss p l0 (fun j hj => A.out j hj hj)]; rfl
set_option maxHeartbeats 8000000 in
theorem inTx.cont (p : List (List S80) → Bool) (B1 : Nat) (A0 : Option Addr) (c0 : Nat) (l0 : List (List (List S80))) (w : World) (hr0 : Kd.C (Kd.slice 61 (Kd.slice 80 k80)) w A0 l0.length l0) (hc : ∀ x ∈ l0, ∀ (A : Option Addr) (c : Nat) (W : World), Below w.heap.size w W → (Kd.slice 80 k80).C W A x.length x → x.length ≤ c → Calls Try.prog 38 #[.slice A x.length c, .pointer (some ⟨B1, 0, none⟩)] W fun e W' => e = .returned (.bool (!(p x))) ∧ Below W.heap.size W W') :
    Calls Try.prog 37 #[.slice A0 l0.length c0, .func (.func 38) #[] #[.pointer (some ⟨B1, 0, none⟩)]] w fun e w' => e = .returned (.bool (!(l0.all p))) ∧ Below w.heap.size w w' := by
  have H := inTx.idx p B1 A0 c0 l0 w hr0 hc
  have E := Aside0.mk (idxN_all p l0)
  clear hr0 hc
  generalize idxN p l0 = r at H E
  go_enter Try.func37, Try.ntmps37
  go_wp2_with (go_at_call 51; refine H.mono ?_; rintro e w' ⟨rfl, hb'⟩)
  go_ret
  exact ⟨by rw [← E.out]; rfl, hb'⟩
/-- Is a number from a least to a most one? -/
def small64.in (a b x : Int) : Bool := decide (a ≤ x) && decide (x ≤ b)
set_option maxHeartbeats 8000000 in
theorem small64.clo (a b x : Int) (B1 B2 : Nat) (w : World) (h1 : w.cell? ⟨B1, 0, none⟩ = some (.int .i64 a)) (h2 : w.cell? ⟨B2, 0, none⟩ = some (.int .i64 b)) :
    Calls Try.prog 48 #[.int .i64 x, .pointer (some ⟨B1, 0, none⟩), .pointer (some ⟨B2, 0, none⟩)] w fun e w' => e = .returned (.bool (!(small64.in a b x))) ∧ Below w.heap.size w w' := by
  have HB := Aside0.mk (Below.refl w.heap.size w)
  by_cases hx : x < a
  · have hxb : decide (x < a) = true := decide_eq_true hx
    have E : Aside0 (small64.in a b x = false) := ⟨by unfold small64.in; rw [decide_eq_false (by omega)]; rfl⟩
    rw [E.out]
    clear hx
    go_enter Try.func48, Try.ntmps48
    go_wp2
    go_ret
    exact ⟨by simp, HB.out⟩
  · have hxb : decide (x < a) = false := decide_eq_false hx
    by_cases hy : x > b
    · have hyb : decide (b < x) = true := decide_eq_true hy
      have E : Aside0 (small64.in a b x = false) := ⟨by unfold small64.in; rw [decide_eq_false (p := x ≤ b) (by omega), Bool.and_false]⟩
      rw [E.out]
      clear hx hy
      go_enter Try.func48, Try.ntmps48
      go_wp2
      go_ret
      exact ⟨by simp, HB.out⟩
    · have hyb : decide (b < x) = false := decide_eq_false (by omega)
      have E : Aside0 (small64.in a b x = true) := ⟨by unfold small64.in; rw [decide_eq_true (p := a ≤ x) (by omega), decide_eq_true (p := x ≤ b) (by omega)]; rfl⟩
      rw [E.out]
      clear hx hy
      go_enter Try.func48, Try.ntmps48
      go_wp2
      go_ret
      exact ⟨by simp, HB.out⟩
set_option maxHeartbeats 8000000 in
theorem small64.calls (a b : Int) (A0 : Option Addr) (c0 : Nat) (l0 : List Int) (w : World) (hr0 : Kd.C (Kd.int .i64) w A0 l0.length l0) :
    Calls Try.prog 35 #[.slice A0 l0.length c0, .int .i64 a, .int .i64 b] w fun e w' => e = .returned (.bool (l0.all (small64.in a b))) ∧ Below w.heap.size w w' := by
  have hb1 : Below w.heap.size w (w.alloc (.cells #[.int .i64 a] 2)) := (Below.refl _ w).alloc (Nat.le_refl _) _
  have hb2 : Below w.heap.size w ((w.alloc (.cells #[.int .i64 a] 2)).alloc (.cells #[.int .i64 b] 2)) := hb1.alloc (by simp) _
  have H := in64.cont (small64.in a b) w.heap.size (w.heap.size + 1) A0 c0 l0 ((w.alloc (.cells #[.int .i64 a] 2)).alloc (.cells #[.int .i64 b] 2)) (Kd.C_below hr0 hb2) (fun x _ W hW => small64.clo a b x w.heap.size (w.heap.size + 1) W ((hW.cell (by simp <;> omega)).trans (by simp)) ((hW.cell (by simp)).trans (by simp)))
  have HB := Aside0.mk hb2
  clear hr0 hb1 hb2
  generalize l0.all (small64.in a b) = r at H
  go_enter Try.func35, Try.ntmps35
  go_wp2_with (go_at_call 47; refine H.mono ?_; rintro e w' ⟨rfl, hb'⟩)
  go_ret
  exact ⟨by simp, HB.out.trans (hb'.mono HB.out.size)⟩
/-- Is a number from a least to a most one? -/
def smallT.in (a b x : Int) : Bool := decide (a ≤ x) && decide (x ≤ b)
set_option maxHeartbeats 8000000 in
theorem smallT.clo (a b x : Int) (B1 B2 : Nat) (w : World) (h1 : w.cell? ⟨B1, 0, none⟩ = some (.int .i64 a)) (h2 : w.cell? ⟨B2, 0, none⟩ = some (.int .i64 b)) :
    Calls Try.prog 50 #[.int .i64 x, .pointer (some ⟨B1, 0, none⟩), .pointer (some ⟨B2, 0, none⟩)] w fun e w' => e = .returned (.bool (!(smallT.in a b x))) ∧ Below w.heap.size w w' := by
  have HB := Aside0.mk (Below.refl w.heap.size w)
  by_cases hx : x < a
  · have hxb : decide (x < a) = true := decide_eq_true hx
    have E : Aside0 (smallT.in a b x = false) := ⟨by unfold smallT.in; rw [decide_eq_false (by omega)]; rfl⟩
    rw [E.out]
    clear hx
    go_enter Try.func50, Try.ntmps50
    go_wp2
    go_ret
    exact ⟨by simp, HB.out⟩
  · have hxb : decide (x < a) = false := decide_eq_false hx
    by_cases hy : x > b
    · have hyb : decide (b < x) = true := decide_eq_true hy
      have E : Aside0 (smallT.in a b x = false) := ⟨by unfold smallT.in; rw [decide_eq_false (p := x ≤ b) (by omega), Bool.and_false]⟩
      rw [E.out]
      clear hx hy
      go_enter Try.func50, Try.ntmps50
      go_wp2
      go_ret
      exact ⟨by simp, HB.out⟩
    · have hyb : decide (b < x) = false := decide_eq_false (by omega)
      have E : Aside0 (smallT.in a b x = true) := ⟨by unfold smallT.in; rw [decide_eq_true (p := a ≤ x) (by omega), decide_eq_true (p := x ≤ b) (by omega)]; rfl⟩
      rw [E.out]
      clear hx hy
      go_enter Try.func50, Try.ntmps50
      go_wp2
      go_ret
      exact ⟨by simp, HB.out⟩
set_option maxHeartbeats 8000000 in
theorem smallT.calls (a b : Int) (A0 : Option Addr) (c0 : Nat) (l0 : List Int) (w : World) (hr0 : Kd.C (Kd.int .i64) w A0 l0.length l0) :
    Calls Try.prog 36 #[.slice A0 l0.length c0, .int .i64 a, .int .i64 b] w fun e w' => e = .returned (.bool (l0.all (smallT.in a b))) ∧ Below w.heap.size w w' := by
  have hb1 : Below w.heap.size w (w.alloc (.cells #[.int .i64 a] 3)) := (Below.refl _ w).alloc (Nat.le_refl _) _
  have hb2 : Below w.heap.size w ((w.alloc (.cells #[.int .i64 a] 3)).alloc (.cells #[.int .i64 b] 3)) := hb1.alloc (by simp) _
  have H := inT.cont (smallT.in a b) w.heap.size (w.heap.size + 1) A0 c0 l0 ((w.alloc (.cells #[.int .i64 a] 3)).alloc (.cells #[.int .i64 b] 3)) (Kd.C_below hr0 hb2) (fun x _ W hW => smallT.clo a b x w.heap.size (w.heap.size + 1) W ((hW.cell (by simp <;> omega)).trans (by simp)) ((hW.cell (by simp)).trans (by simp)))
  have HB := Aside0.mk hb2
  clear hr0 hb1 hb2
  generalize l0.all (smallT.in a b) = r at H
  go_enter Try.func36, Try.ntmps36
  go_wp2_with (go_at_call 49; refine H.mono ?_; rintro e w' ⟨rfl, hb'⟩)
  go_ret
  exact ⟨by simp, HB.out.trans (hb'.mono HB.out.size)⟩
/-- May a thread's transactions be? -/
def rightB (n : Int) (l : List S80) : Bool := decide (1 ≤ l.length) && decide (l.length ≤ 8) && l.all (okB · n)
def txnsB (n : Int) (l : List (List S80)) : Bool := decide (l.length ≤ 6) && l.all (rightB n)
set_option maxHeartbeats 8000000 in
theorem txns.clo (n : Int) (B1 : Nat) (x : List S80) (A : Option Addr) (c : Nat) (w : World) (h1 : w.cell? ⟨B1, 0, none⟩ = some (.int .i64 n)) (hr : Kd.C k80 w A x.length x) (hc : x.length ≤ c) :
    Calls Try.prog 53 #[.slice A x.length c, .pointer (some ⟨B1, 0, none⟩)] w fun e w' => e = .returned (.bool (!(rightB n x))) ∧ Below w.heap.size w w' := by
  have H := lang_Right.calls A c x n (rightB n x) w hr hc rfl
  clear hr hc
  generalize rightB n x = r at H
  go_enter Try.func53, Try.ntmps53
  go_wp2_with (go_at_call 54; refine H.mono ?_; rintro e w' ⟨rfl, hb'⟩)
  go_ret
  exact ⟨rfl, hb'⟩
set_option maxHeartbeats 8000000 in
theorem txns.calls (n : Int) (A0 : Option Addr) (c0 : Nat) (l0 : List (List S80)) (w : World) (hr0 : Kd.C (Kd.slice 80 k80) w A0 l0.length l0) (hc0 : l0.length ≤ c0) :
    Calls Try.prog 39 #[.slice A0 l0.length c0, .int .i64 n] w fun e w' => e = .returned (.bool (txnsB n l0)) ∧ Below w.heap.size w w' := by
  have hb1 : Below w.heap.size w (w.alloc (.cells #[.int .i64 n] 3)) := (Below.refl _ w).alloc (Nat.le_refl _) _
  have H := inOps.cont (rightB n) w.heap.size A0 c0 l0 (w.alloc (.cells #[.int .i64 n] 3)) (Kd.C_below hr0 hb1) (fun x _ A c W hW hK hl => txns.clo n w.heap.size x A c W ((hW.cell (by simp)).trans (by simp)) hK hl)
  have HB := Aside0.mk hb1
  clear hr0 hb1
  by_cases h6 : l0.length ≤ 6
  · have e6 : decide ((l0.length : Int) ≤ 6) = true := decide_eq_true (by omega)
    have E : Aside0 (txnsB n l0 = l0.all (rightB n)) := ⟨by unfold txnsB; rw [decide_eq_true h6]; rfl⟩
    rw [E.out]
    clear h6
    generalize l0.all (rightB n) = r at H
    go_enter Try.func39, Try.ntmps39
    go_wp2_with (go_at_call 52; refine H.mono ?_; rintro e w' ⟨rfl, hb'⟩)
    go_ret
    exact ⟨by simp, HB.out.trans (hb'.mono HB.out.size)⟩
  · have e6 : decide ((l0.length : Int) ≤ 6) = false := decide_eq_false (by omega)
    have E : Aside0 (txnsB n l0 = false) := ⟨by unfold txnsB; rw [decide_eq_false h6]; rfl⟩
    rw [E.out]
    clear h6 H
    go_enter Try.func39, Try.ntmps39
    go_wp2
    go_ret
    exact ⟨by simp, HB.out⟩
set_option maxHeartbeats 8000000 in
theorem okC.clo (a0 a1 a2 a3 a4 a5 : Int) (B1 : Nat) (x : List (List S80)) (A : Option Addr) (c : Nat) (w : World) (h1 : w.cell? ⟨B1, 0, none⟩ = some (.int .i64 a0)) (hr : Kd.C (Kd.slice 80 k80) w A x.length x) (hc : x.length ≤ c) :
    Calls Try.prog 38 #[.slice A x.length c, .pointer (some ⟨B1, 0, none⟩)] w fun e w' => e = .returned (.bool (!(txnsB a0 x))) ∧ Below w.heap.size w w' := by
  have hu25 := Try.underlying25
  have H := txns.calls a0 A c x w hr hc
  clear hr hc
  generalize txnsB a0 x = r at H
  go_enter Try.func38, Try.ntmps38
  go_wp2_with (go_at_call 39; refine H.mono ?_; rintro e w' ⟨rfl, hb'⟩)
  go_ret
  exact ⟨rfl, hb'⟩
end Go.Proofs.Ythfkgnkojhocbaa.S
end
section
namespace Go.Proofs.Ythfkgnkojhocbaa.S
open Go Go.RowKit Go.Proofs.YthfkgnkojhocbaaW.PrintWords Go.Proofs.YthfkgnkojhocbaaW.PrintLast
set_option linter.unusedVariables false
set_option linter.unusedSimpArgs false
/-- May a script be? -/
def okS (c : S25) (f d : List Int) (a : List (List (List S80))) (p : List Int) : Bool :=
  checkB c && decide ((f.length : Int) = c.f0) && decide (wrap64 (2 * c.f0) ≤ c.f2) && f.all (small64.in (-128) 127) && decide ((a.length : Int) = c.f1) && decide ((d.length : Int) ≤ 255) && p.all (smallT.in 0 255) && a.all (txnsB c.f0)
def script_Ok.f (a0_0 a0_1 a0_2 a0_3 a0_4 a0_5 : Int) (l0_6 l0_7 : List Int) (l0_8 : List (List (List S80))) (l0_9 : List Int) : Option Bool := some (okS ⟨a0_0, a0_1, a0_2, a0_3, a0_4, a0_5⟩ l0_6 l0_7 l0_8 l0_9)
end Go.Proofs.Ythfkgnkojhocbaa.S
end
section
namespace Go.Proofs.Ythfkgnkojhocbaa.S
open Go Go.RowKit Go.Proofs.YthfkgnkojhocbaaW.PrintWords
set_option linter.unusedVariables false
set_option linter.unusedSimpArgs false
def opB (o : S80) : List Int := [o.f0 % 256, o.f1 % 256, o.f2 % 256]
def encT (l : List S80) : List Int := (l.length : Int) % 256 :: l.flatMap opB
def encA (l : List (List S80)) : List Int := (l.length : Int) % 256 :: l.flatMap encT
def head7 (c : S25) : List Int := [c.f0 % 256, c.f1 % 256, (c.f2 / 256) % 256, c.f2 % 256, c.f3 % 256, c.f4 % 256, c.f5 % 256]
/-- A script's bytes. -/
def putF (c : S25) (f d : List Int) (a : List (List (List S80))) (p : List Int) : List Int :=
  head7 c ++ (f.map (· % 256) ++ (a.flatMap encA ++ ((d.length : Int) % 256 :: (d ++ p.map (· % 256)))))
theorem rightB_iff {n : Int} {os : List S80} (h : rightB n os = true) : 1 ≤ os.length ∧ os.length ≤ 8 ∧ ∀ o ∈ os, okB o n = true := by
  unfold rightB at h
  simp only [Bool.and_eq_true, decide_eq_true_eq, List.all_eq_true] at h
  exact ⟨h.1.1, h.1.2, h.2⟩
theorem txnsB_iff {n : Int} {tl : List (List S80)} (h : txnsB n tl = true) : tl.length ≤ 6 ∧ ∀ t ∈ tl, rightB n t = true := by
  unfold txnsB at h
  simp only [Bool.and_eq_true, decide_eq_true_eq, List.all_eq_true] at h
  exact h
/-- What okS says. -/
structure OkS (c : S25) (f d : List Int) (a : List (List (List S80))) (p : List Int) : Prop where
  c0 : 1 ≤ c.f0 ∧ c.f0 ≤ 8
  c1 : 1 ≤ c.f1 ∧ c.f1 ≤ 6
  c2 : 1 ≤ c.f2 ∧ c.f2 ≤ 4096
  c3 : 0 ≤ c.f3 ∧ c.f3 ≤ 255
  c4 : 1 ≤ c.f4 ∧ c.f4 ≤ 4
  c5 : 1 ≤ c.f5 ∧ c.f5 ≤ 64
  rec_ : 2 * c.f0 ≤ c.f2
  fl : (f.length : Int) = c.f0
  fr : ∀ x ∈ f, -128 ≤ x ∧ x ≤ 127
  al : (a.length : Int) = c.f1
  at_ : ∀ t ∈ a, txnsB c.f0 t = true
  dl : (d.length : Int) ≤ 255
  pr : ∀ x ∈ p, 0 ≤ x ∧ x ≤ 255
theorem byte_id : ∀ p : List Int, (∀ x ∈ p, 0 ≤ x ∧ x ≤ 255) → p.map (· % 256) = p
  | [], _ => rfl
  | x :: p, h => by
    have hx := h x (by simp)
    rw [List.map_cons, byte_id p (fun y hy => h y (by simp [hy]))]
    congr 1
    omega
end Go.Proofs.Ythfkgnkojhocbaa.S
end
section
namespace Go.Proofs.Ythfkgnkojhocbaa.S
open Go Go.RowKit Go.Proofs.YthfkgnkojhocbaaW.PrintWords
set_option linter.unusedVariables false
set_option linter.unusedSimpArgs false
/-- A part that fails ends it. -/
theorem run_bad {l : List Int} {n i : Nat} {s s' : Rd} {e : Int} (h : stepF l i s = (e, s')) (he : e ≠ 0) : runF l (n + 1) i s = (e, s') := by
  simp only [runF, h]
  rw [if_pos he]
theorem run_good {l : List Int} {n i : Nat} {s s' : Rd} (h : stepF l i s = (0, s')) : runF l (n + 1) i s = runF l n (i + 1) s' := by
  simp only [runF, h]
  rw [if_neg (by simp)]
end Go.Proofs.Ythfkgnkojhocbaa.S
end
section
namespace Go.Proofs.Ythfkgnkojhocbaa.S
open Go Go.RowKit Go.Proofs.YthfkgnkojhocbaaW.PrintWords
set_option linter.unusedVariables false
set_option linter.unusedSimpArgs false
theorem isB_at {l : List Int} (h : isB l) (a : Nat) : 0 ≤ l.getD a 0 ∧ l.getD a 0 ≤ 255 := by
  rcases Nat.lt_or_ge a l.length with h1 | h1
  · have := h _ (List.getElem_mem h1)
    simpa [h1] using this
  · simp [h1]
theorem drop_at {l : List Int} {a : Nat} (h : a < l.length) : l.drop a = l.getD a 0 :: l.drop (a + 1) := by
  rw [List.drop_eq_getElem_cons h]
  simp [h]
theorem count_got {l : List Int} {a : Nat} {lo hi : Int} (h : (countF l a lo hi).2.1 = 0) :
    a < l.length ∧ countF l a lo hi = (l.getD a 0, 0, a + 1) ∧ lo ≤ l.getD a 0 ∧ l.getD a 0 ≤ hi ∧ l.drop a = l.getD a 0 :: l.drop (a + 1) := by
  unfold countF at h ⊢
  split at h
  · cases h
  · rename_i h1
    split at h
    · cases h
    · rename_i h2
      rw [if_neg h1, if_neg h2]
      exact ⟨by omega, rfl, by omega, by omega, drop_at (by omega)⟩
theorem op_got {l : List Int} (hb : isB l) {a : Nat} (h : a + 3 ≤ l.length) : l.drop a = opB (opOf l a) ++ l.drop (a + 3) := by
  rw [drop_at (show a < l.length by omega), drop_at (show a + 1 < l.length by omega), drop_at (show a + 1 + 1 < l.length by omega)]
  have b0 := isB_at hb a
  have b1 := isB_at hb (a + 1)
  have b2 := isB_at hb (a + 2)
  unfold opOf opB
  simp only [List.cons_append, List.nil_append]
  have e0 : l.getD a 0 % 256 = l.getD a 0 := by omega
  have e1 : l.getD (a + 1) 0 % 256 = l.getD (a + 1) 0 := by omega
  have e2 : sgn (l.getD (a + 2) 0) % 256 = l.getD (a + 2) 0 := by unfold sgn; split <;> omega
  rw [e0, e1, e2]
theorem ops_got {l : List Int} (hb : isB l) {n : Int} : ∀ (k a : Nat) (acc out : List S80) (b : Nat), a ≤ l.length → opsF l n k a acc = (out, 0, b) →
    ∃ os, out = acc ++ os ∧ os.length = k ∧ (∀ o ∈ os, okB o n = true) ∧ l.drop a = os.flatMap opB ++ l.drop b ∧ b ≤ l.length
  | 0, a, acc, out, b, ha, h => by
    simp only [opsF, Prod.mk.injEq] at h
    obtain ⟨rfl, _, rfl⟩ := h
    exact ⟨[], by simp, rfl, fun _ hx => by simp at hx, by simp, ha⟩
  | k + 1, a, acc, out, b, ha, h => by
    simp only [opsF] at h
    split at h
    · simp at h
    · rename_i h1
      split at h
      · simp at h
      · rename_i h2
        obtain ⟨os, e1, e2, e3, e4, e5⟩ := ops_got hb k (a + 3) _ out b (by omega) h
        refine ⟨opOf l a :: os, by rw [e1]; simp, by simp [e2], fun o ho => ?_, ?_, e5⟩
        · rcases List.mem_cons.1 ho with rfl | ho
          · simpa using h2
          · exact e3 o ho
        · rw [op_got hb (by omega), e4, List.flatMap_cons, List.append_assoc]
theorem txn_got {l : List Int} (hb : isB l) {n : Int} {a : Nat} (ha : a ≤ l.length) {os : List S80} {b : Nat} (h : txnF l n a = (os, 0, b)) :
    rightB n os = true ∧ l.drop a = encT os ++ l.drop b ∧ b ≤ l.length := by
  unfold txnF at h
  split at h
  · rename_i h1
    simp only [Prod.mk.injEq] at h
    exact absurd h.2.1 h1
  · rename_i h1
    obtain ⟨lt, hc, h2, h3, d⟩ := count_got (by simpa using h1)
    rw [hc] at h
    simp only at h
    obtain ⟨os', e1, e2, e3, e4, e5⟩ := ops_got hb _ (a + 1) [] os b (by omega) h
    simp only [List.nil_append] at e1
    subst e1
    refine ⟨?_, ?_, e5⟩
    · unfold rightB
      simp only [Bool.and_eq_true, decide_eq_true_eq, List.all_eq_true]
      exact ⟨⟨by omega, by omega⟩, e3⟩
    · unfold encT
      rw [d, e4, List.cons_append]
      congr 1
      omega
theorem txns_got {l : List Int} (hb : isB l) {n : Int} : ∀ (k a : Nat) (acc out : List (List S80)) (b : Nat), a ≤ l.length → txnsF l n k a acc = (out, 0, b) →
    ∃ tl, out = acc ++ tl ∧ tl.length = k ∧ (∀ t ∈ tl, rightB n t = true) ∧ l.drop a = tl.flatMap encT ++ l.drop b ∧ b ≤ l.length
  | 0, a, acc, out, b, ha, h => by
    simp only [txnsF, Prod.mk.injEq] at h
    obtain ⟨rfl, _, rfl⟩ := h
    exact ⟨[], by simp, rfl, fun _ hx => by simp at hx, by simp, ha⟩
  | k + 1, a, acc, out, b, ha, h => by
    simp only [txnsF] at h
    split at h
    · rename_i h1
      simp only [Prod.mk.injEq] at h
      exact absurd h.2.1 h1
    · rename_i h1
      have h1' : (txnF l n a).2.1 = 0 := by simpa using h1
      obtain ⟨r, d, le⟩ := txn_got hb ha (os := (txnF l n a).1) (b := (txnF l n a).2.2) (by rw [← h1'])
      obtain ⟨tl, e1, e2, e3, e4, e5⟩ := txns_got hb k _ _ out b le h
      refine ⟨(txnF l n a).1 :: tl, by rw [e1]; simp, by simp [e2], fun o ho => ?_, ?_, e5⟩
      · rcases List.mem_cons.1 ho with rfl | ho
        · exact r
        · exact e3 o ho
      · rw [d, e4, List.flatMap_cons, List.append_assoc]
theorem all_got {l : List Int} (hb : isB l) {n : Int} : ∀ (k a : Nat) (acc out : List (List (List S80))) (b : Nat), a ≤ l.length → allF l n k a acc = (0, b, out) →
    ∃ al, out = acc ++ al ∧ al.length = k ∧ (∀ t ∈ al, txnsB n t = true) ∧ l.drop a = al.flatMap encA ++ l.drop b ∧ b ≤ l.length
  | 0, a, acc, out, b, ha, h => by
    simp only [allF, Prod.mk.injEq] at h
    obtain ⟨_, rfl, rfl⟩ := h
    exact ⟨[], by simp, rfl, fun _ hx => by simp at hx, by simp, ha⟩
  | k + 1, a, acc, out, b, ha, h => by
    simp only [allF] at h
    split at h
    · rename_i h1
      simp only [Prod.mk.injEq] at h
      exact absurd h.1 h1
    · rename_i h1
      obtain ⟨lt, hc, h2, h3, d⟩ := count_got (by simpa using h1)
      rw [hc] at h
      simp only at h
      split at h
      · rename_i h4
        simp only [Prod.mk.injEq] at h
        exact absurd h.1 h4
      · rename_i h4
        have h4' : (txnsF l n (l.getD a 0).toNat (a + 1) []).2.1 = 0 := by simpa using h4
        obtain ⟨tl, t1, t2, t3, t4, t5⟩ := txns_got hb (l.getD a 0).toNat (a + 1) [] (txnsF l n (l.getD a 0).toNat (a + 1) []).1 (txnsF l n (l.getD a 0).toNat (a + 1) []).2.2 (by omega) (Prod.ext rfl (Prod.ext h4' rfl))
        simp only [List.nil_append] at t1
        obtain ⟨al, e1, e2, e3, e4, e5⟩ := all_got hb k _ _ out b t5 h
        refine ⟨tl :: al, by rw [e1, t1]; simp, by simp [e2], fun o ho => ?_, ?_, e5⟩
        · rcases List.mem_cons.1 ho with rfl | ho
          · unfold txnsB
            simp only [Bool.and_eq_true, decide_eq_true_eq, List.all_eq_true]
            exact ⟨by omega, t3⟩
          · exact e3 o ho
        · rw [d, t4, e4, List.flatMap_cons, List.append_assoc]
          unfold encA
          rw [List.cons_append]
          congr 1
          omega
theorem run_zero {l : List Int} {n i : Nat} {s : Rd} (h : (runF l (n + 1) i s).1 = 0) : ∃ s', stepF l i s = (0, s') ∧ runF l (n + 1) i s = runF l n (i + 1) s' := by
  simp only [runF] at h ⊢
  split at h
  · rename_i h1
    exact absurd h h1
  · rename_i h1
    rw [if_neg h1]
    have h1' : (stepF l i s).1 = 0 := by simpa using h1
    exact ⟨(stepF l i s).2, by rw [← h1'], rfl⟩
theorem sgn_back : ∀ p : List Int, isB p → (p.map sgn).map (· % 256) = p
  | [], _ => rfl
  | x :: p, h => by
    have hx := h x (by simp)
    rw [List.map_cons, List.map_cons, sgn_back p (fun y hy => h y (by simp [hy]))]
    congr 1
    unfold sgn
    split <;> omega
theorem isB_drop {l : List Int} (h : isB l) (a : Nat) : isB (l.drop a) := fun x hx => h x (List.mem_of_mem_drop hx)
theorem isB_take {l : List Int} (h : isB l) (a : Nat) : isB (l.take a) := fun x hx => h x (List.mem_of_mem_take hx)
/-- What was got may be, and is put as those bytes. -/
theorem get_back {l : List Int} (hb : isB l) (h : (getF l).2.2 = 0) : OkS (getF l).1.c (getF l).1.f (getF l).1.d (getF l).1.a (getF l).1.p ∧ putF (getF l).1.c (getF l).1.f (getF l).1.d (getF l).1.a (getF l).1.p = l ∧ (getF l).2.1 = -1 := by
  have h5 : (runF l 5 0 rd0).1 = 0 := by
    unfold getF at h
    split at h
    · rename_i h1; exact absurd h h1
    · rename_i h1; simpa using h1
  have hg : getF l = ((runF l 5 0 rd0).2, -1, 0) := by
    unfold getF
    rw [if_neg (by rw [h5]; simp)]
  rw [hg]
  simp only
  obtain ⟨s1, q1, r1⟩ := run_zero h5
  rw [r1] at h5 ⊢
  obtain ⟨s2, q2, r2⟩ := run_zero h5
  rw [r2] at h5 ⊢
  obtain ⟨s3, q3, r3⟩ := run_zero h5
  rw [r3] at h5 ⊢
  obtain ⟨s4, q4, r4⟩ := run_zero h5
  rw [r4] at h5 ⊢
  obtain ⟨s5, q5, r5⟩ := run_zero h5
  rw [r5]
  show OkS s5.c s5.f s5.d s5.a s5.p ∧ putF s5.c s5.f s5.d s5.a s5.p = l ∧ _
  clear hg h5 r1 r2 r3 r4 r5 h
  -- the config
  have q1 : configF l rd0 = (0, s1) := q1
  unfold configF at q1
  split at q1
  · simp at q1
  rename_i h7
  have h7 : 7 ≤ l.length := by have : ¬ (l.length < 0 + 7) := h7; omega
  split at q1
  · simp at q1
  rename_i hck
  split at q1
  · simp at q1
  rename_i hrec
  have hck : checkB (cfgOf l 0) = true := (Bool.not_eq_false _).mp hck
  have hrec : ¬ ((cfgOf l 0).f2 < 2 * (cfgOf l 0).f0) := hrec
  simp only [Prod.mk.injEq, true_and] at q1
  subst q1
  obtain ⟨b0, b1, b2, b3, b4, b5, b6, hs, hcfg, hb7⟩ := seven l 0 (by omega) hb
  have hcfg' := hcfg
  rw [show rd0.at_ = 0 from rfl, hcfg] at q2
  rw [hcfg] at hck hrec
  clear hcfg
  have hck' := hck
  unfold checkB at hck'
  have hck' := of_decide_eq_true hck'
  simp only at hck' hrec
  -- the first values
  have q2 : firstF l { rd0 with at_ := 0 + 7, c := ⟨b0, b1, b2 * 256 + b3, b4, b5, b6⟩ } = (0, s2) := q2
  unfold firstF at q2
  split at q2
  · simp at q2
  rename_i hf
  simp only at hf q2
  simp only [Prod.mk.injEq, true_and] at q2
  subst q2
  -- the transactions
  have q3 : allR l _ = (0, s3) := q3
  unfold allR at q3
  simp only [show rd0.a = [] from rfl] at q3
  obtain ⟨e3, q3⟩ := Prod.mk.injEq .. ▸ q3
  generalize hA : allF l b0 b1.toNat (0 + 7 + b0.toNat) [] = A at e3 q3
  obtain ⟨A1, A2, A3⟩ := A
  simp only at e3 q3
  subst e3
  subst q3
  obtain ⟨al, a1, a2, a3, a4, a5⟩ := all_got hb b1.toNat (0 + 7 + b0.toNat) [] A3 A2 (by omega) hA
  simp only [List.nil_append] at a1
  subst a1
  -- the draws
  have q4 : drawsF l _ = (0, s4) := q4
  unfold drawsF at q4
  split at q4
  · rename_i h1
    simp only [Prod.mk.injEq] at q4
    exact absurd q4.1 h1
  rename_i h1
  simp only at h1
  obtain ⟨lt, hc, c2, c3, c4⟩ := count_got (by simpa using h1)
  simp only [hc] at q4
  split at q4
  · simp at q4
  rename_i hd
  simp only [Prod.mk.injEq, true_and] at q4
  subst q4
  -- the picks
  have q5 : picksF l _ = (0, s5) := q5
  unfold picksF at q5
  simp only [Prod.mk.injEq, true_and] at q5
  subst q5
  simp only [show rd0.f = [] from rfl, show rd0.p = [] from rfl, List.nil_append]
  have d7 : l.drop 7 = (l.drop 7).take b0.toNat ++ l.drop (7 + b0.toNat) := by
    rw [← List.drop_drop, List.take_append_drop]
  refine ⟨⟨hck'.1, hck'.2.1, hck'.2.2.1, hck'.2.2.2.1, hck'.2.2.2.2.1, hck'.2.2.2.2.2, ?_, ?_, ?_, ?_, a3, ?_, ?_⟩, ?_, trivial⟩
  · simp only; omega
  · simp only [List.length_map, List.length_take, List.length_drop, Nat.zero_add]; omega
  · intro x hx
    obtain ⟨y, hy, rfl⟩ := List.mem_map.1 hx
    have := hb y (List.mem_of_mem_drop (List.mem_of_mem_take hy))
    unfold sgn
    split <;> omega
  · simp only; omega
  · simp only [List.length_take, List.length_drop]; omega
  · intro x hx
    exact hb x (List.mem_of_mem_drop hx)
  · unfold putF
    rw [byte_id _ (fun x hx => hb x (List.mem_of_mem_drop hx))]
    simp only [Nat.zero_add]
    rw [sgn_back _ (isB_take (isB_drop hb 7) _)]
    have hl : l = head7 ⟨b0, b1, b2 * 256 + b3, b4, b5, b6⟩ ++ l.drop 7 := by
      have e := (List.take_append_drop 7 l).symm
      rw [show l.take 7 = [b0, b1, b2, b3, b4, b5, b6] from hs] at e
      rw [show head7 ⟨b0, b1, b2 * 256 + b3, b4, b5, b6⟩ = [b0, b1, b2, b3, b4, b5, b6] from by
        unfold head7
        simp only
        congr 1 <;> first | omega | skip
        congr 1 <;> first | omega | skip
        congr 1 <;> first | omega | skip
        congr 1 <;> first | omega | skip
        congr 1 <;> first | omega | skip
        congr 1 <;> first | omega | skip
        congr 1 <;> omega]
      exact e
    conv => rhs; rw [hl, d7]
    congr 2
    rw [show 7 + b0.toNat = 0 + 7 + b0.toNat by omega, a4, c4]
    congr 1
    have hlen : ((l.drop (A2 + 1)).take (l.getD A2 0).toNat).length = (l.getD A2 0).toNat := by
      rw [List.length_take, List.length_drop]; omega
    rw [hlen]
    congr 1
    · omega
    · have e9 : l.drop (A2 + 1 + (l.getD A2 0).toNat) = (l.drop (A2 + 1)).drop (l.getD A2 0).toNat := by rw [List.drop_drop]
      rw [e9, List.take_append_drop]
end Go.Proofs.Ythfkgnkojhocbaa.S
end
section
namespace Go.Proofs.Ythfkgnkojhocbaa.S
open Go.RowKit Go.Proofs.YthfkgnkojhocbaaW.PrintWords Go.Proofs.YthfkgnkojhocbaaW.PrintLast Go.Proofs.YthfkgnkojhocbaaW.PrintMore
attribute [local go_sem] max2_int min2_int max_two min_two max_three min_three max_four min_four
set_option linter.unusedVariables false
set_option linter.unusedSimpArgs false
mutual
def quarrellaw16_Great.j0 : Nat → Bool → Int → Int → Int → Int → Int → Int → List Int → List Int → List (List (List (S80))) → Option (Int)
  | 0, _, _, _, _, _, _, _, _, _, _ => none
  | k + 1, x20, x236000, x236001, x236002, x236003, x236004, x236005, x236006, x236007, x236008 => if x20 = true then (some 1) else (quarrellaw16_Great.l0 k 0 x236000 x236001 x236002 x236003 x236004 x236005 x236006 x236007 x236008)
def quarrellaw16_Great.l0 : Nat → Int → Int → Int → Int → Int → Int → Int → List Int → List Int → List (List (List (S80))) → Option (Int)
  | 0, _, _, _, _, _, _, _, _, _, _ => none
  | k + 1, x3, x236000, x236001, x236002, x236003, x236004, x236005, x236006, x236007, x236008 => if x3 < (x236008.length : Int) then (if 0 ≤ x3 then (if ((rd_L7 x236008 x3).length : Int) > 20 then (some 1) else (quarrellaw16_Great.l1 k x3 0 x236000 x236001 x236002 x236003 x236004 x236005 x236006 x236007 x236008)) else (none)) else (some 0)
def quarrellaw16_Great.l1 : Nat → Int → Int → Int → Int → Int → Int → Int → Int → List Int → List Int → List (List (List (S80))) → Option (Int)
  | 0, _, _, _, _, _, _, _, _, _, _, _ => none
  | k + 1, x3, x4, x236000, x236001, x236002, x236003, x236004, x236005, x236006, x236007, x236008 => if 0 ≤ x3 then (if x3 < (x236008.length : Int) then (if x4 < ((rd_L7 x236008 x3).length : Int) then (if 0 ≤ x4 then (if ((rd_L6 (rd_L7 x236008 x3) x4).length : Int) > 20 then (some 1) else (quarrellaw16_Great.l1 k x3 (wrap64 (x4 + 1)) x236000 x236001 x236002 x236003 x236004 x236005 x236006 x236007 x236008)) else (none)) else (quarrellaw16_Great.l0 k (wrap64 (x3 + 1)) x236000 x236001 x236002 x236003 x236004 x236005 x236006 x236007 x236008)) else (none)) else (none)
end
def quarrellaw16_Great.f (k : Nat) (a0_0 : Int) (a0_1 : Int) (a0_2 : Int) (a0_3 : Int) (a0_4 : Int) (a0_5 : Int) (l0_6 : List Int) (l0_7 : List Int) (l0_8 : List (List (List (S80)))) : Option (Int) := if (l0_6.length : Int) > 20 then (quarrellaw16_Great.j0 k true a0_0 a0_1 a0_2 a0_3 a0_4 a0_5 l0_6 l0_7 l0_8) else (if (l0_7.length : Int) > 50 then (quarrellaw16_Great.j0 k true a0_0 a0_1 a0_2 a0_3 a0_4 a0_5 l0_6 l0_7 l0_8) else (quarrellaw16_Great.j0 k (decide ((l0_8.length : Int) > 10)) a0_0 a0_1 a0_2 a0_3 a0_4 a0_5 l0_6 l0_7 l0_8))
theorem quarrellaw16_Great.mono_l : ∀ k, (∀ y0 y1 y2 y3 y4 y5 y6 y7 y8 y9, LeO (quarrellaw16_Great.j0 k y0 y1 y2 y3 y4 y5 y6 y7 y8 y9) (quarrellaw16_Great.j0 (k + 1) y0 y1 y2 y3 y4 y5 y6 y7 y8 y9)) ∧ (∀ y0 y1 y2 y3 y4 y5 y6 y7 y8 y9, LeO (quarrellaw16_Great.l0 k y0 y1 y2 y3 y4 y5 y6 y7 y8 y9) (quarrellaw16_Great.l0 (k + 1) y0 y1 y2 y3 y4 y5 y6 y7 y8 y9)) ∧ (∀ y0 y1 y2 y3 y4 y5 y6 y7 y8 y9 y10, LeO (quarrellaw16_Great.l1 k y0 y1 y2 y3 y4 y5 y6 y7 y8 y9 y10) (quarrellaw16_Great.l1 (k + 1) y0 y1 y2 y3 y4 y5 y6 y7 y8 y9 y10))
  | 0 => ⟨fun _ _ _ _ _ _ _ _ _ _ r h => by simp [quarrellaw16_Great.j0] at h, fun _ _ _ _ _ _ _ _ _ _ r h => by simp [quarrellaw16_Great.l0] at h, fun _ _ _ _ _ _ _ _ _ _ _ r h => by simp [quarrellaw16_Great.l1] at h⟩
  | k + 1 => by
    obtain ⟨ih0, ih1, ih2⟩ := quarrellaw16_Great.mono_l k
    refine ⟨?_, ?_, ?_⟩
    · intro y0 y1 y2 y3 y4 y5 y6 y7 y8 y9
      unfold quarrellaw16_Great.j0
      repeat' first
      | (with_reducible exact ih0 _ _ _ _ _ _ _ _ _ _)
      | (with_reducible exact ih1 _ _ _ _ _ _ _ _ _ _)
      | (with_reducible exact ih2 _ _ _ _ _ _ _ _ _ _ _)
      | (with_reducible exact LeO.refl _)
      | (with_reducible exact LeO.none _)
      | (with_reducible refine LeO.ite ?_ ?_)
      | (with_reducible refine LeO.bind ?_ (fun _ => ?_))
      | exact ih0 _ _ _ _ _ _ _ _ _ _
      | exact ih1 _ _ _ _ _ _ _ _ _ _
      | exact ih2 _ _ _ _ _ _ _ _ _ _ _
      | exact LeO.none _
      | refine LeO.ite ?_ ?_
      | refine LeO.bind ?_ (fun _ => ?_)
    · intro y0 y1 y2 y3 y4 y5 y6 y7 y8 y9
      unfold quarrellaw16_Great.l0
      repeat' first
      | (with_reducible exact ih0 _ _ _ _ _ _ _ _ _ _)
      | (with_reducible exact ih1 _ _ _ _ _ _ _ _ _ _)
      | (with_reducible exact ih2 _ _ _ _ _ _ _ _ _ _ _)
      | (with_reducible exact LeO.refl _)
      | (with_reducible exact LeO.none _)
      | (with_reducible refine LeO.ite ?_ ?_)
      | (with_reducible refine LeO.bind ?_ (fun _ => ?_))
      | exact ih0 _ _ _ _ _ _ _ _ _ _
      | exact ih1 _ _ _ _ _ _ _ _ _ _
      | exact ih2 _ _ _ _ _ _ _ _ _ _ _
      | exact LeO.none _
      | refine LeO.ite ?_ ?_
      | refine LeO.bind ?_ (fun _ => ?_)
    · intro y0 y1 y2 y3 y4 y5 y6 y7 y8 y9 y10
      unfold quarrellaw16_Great.l1
      repeat' first
      | (with_reducible exact ih0 _ _ _ _ _ _ _ _ _ _)
      | (with_reducible exact ih1 _ _ _ _ _ _ _ _ _ _)
      | (with_reducible exact ih2 _ _ _ _ _ _ _ _ _ _ _)
      | (with_reducible exact LeO.refl _)
      | (with_reducible exact LeO.none _)
      | (with_reducible refine LeO.ite ?_ ?_)
      | (with_reducible refine LeO.bind ?_ (fun _ => ?_))
      | exact ih0 _ _ _ _ _ _ _ _ _ _
      | exact ih1 _ _ _ _ _ _ _ _ _ _
      | exact ih2 _ _ _ _ _ _ _ _ _ _ _
      | exact LeO.none _
      | refine LeO.ite ?_ ?_
      | refine LeO.bind ?_ (fun _ => ?_)
theorem quarrellaw16_Great.mono : ∀ a0 a1 a2 a3 a4 a5 a6 a7 a8 k, LeO (quarrellaw16_Great.f k a0 a1 a2 a3 a4 a5 a6 a7 a8) (quarrellaw16_Great.f (k + 1) a0 a1 a2 a3 a4 a5 a6 a7 a8) := by
  intro a0 a1 a2 a3 a4 a5 a6 a7 a8 k
  obtain ⟨ih0, ih1, ih2⟩ := quarrellaw16_Great.mono_l k
  unfold quarrellaw16_Great.f
  repeat' first
      | (with_reducible exact ih0 _ _ _ _ _ _ _ _ _ _)
      | (with_reducible exact ih1 _ _ _ _ _ _ _ _ _ _)
      | (with_reducible exact ih2 _ _ _ _ _ _ _ _ _ _ _)
      | (with_reducible exact LeO.refl _)
      | (with_reducible exact LeO.none _)
      | (with_reducible refine LeO.ite ?_ ?_)
      | (with_reducible refine LeO.bind ?_ (fun _ => ?_))
      | exact ih0 _ _ _ _ _ _ _ _ _ _
      | exact ih1 _ _ _ _ _ _ _ _ _ _
      | exact ih2 _ _ _ _ _ _ _ _ _ _ _
      | exact LeO.none _
      | refine LeO.ite ?_ ?_
      | refine LeO.bind ?_ (fun _ => ?_)
def quarrellaw20_great.f (k : Nat) (a0_0 : Int) (a0_1 : Int) (a0_2 : Int) (a0_3 : Int) (a0_4 : Int) (a0_5 : Int) (l0_6 : List Int) (l0_7 : List Int) (l0_8 : List (List (List (S80)))) (l0_9 : List Int) : Option (Bool) := if (l0_9.length : Int) > 1000 then (some true) else (if (l0_7.length : Int) > 1000 then (some true) else ((quarrellaw16_Great.f k 0 0 0 0 0 0 l0_6 ([] : List Int) l0_8).bind fun t241 => (some (decide (t241 > 0)))))
theorem quarrellaw20_great.mono : ∀ a0 a1 a2 a3 a4 a5 a6 a7 a8 a9 k, LeO (quarrellaw20_great.f k a0 a1 a2 a3 a4 a5 a6 a7 a8 a9) (quarrellaw20_great.f (k + 1) a0 a1 a2 a3 a4 a5 a6 a7 a8 a9) := by
  intro a0 a1 a2 a3 a4 a5 a6 a7 a8 a9 k
  unfold quarrellaw20_great.f
  repeat' first
      | (with_reducible exact quarrellaw16_Great.mono _ _ _ _ _ _ _ _ _ _)
      | (with_reducible exact LeO.refl _)
      | (with_reducible exact LeO.none _)
      | (with_reducible refine LeO.ite ?_ ?_)
      | (with_reducible refine LeO.bind ?_ (fun _ => ?_))
      | exact quarrellaw16_Great.mono _ _ _ _ _ _ _ _ _ _
      | exact LeO.none _
      | refine LeO.ite ?_ ?_
      | refine LeO.bind ?_ (fun _ => ?_)
end Go.Proofs.Ythfkgnkojhocbaa.S
end
section
namespace Go.Proofs.Ythfkgnkojhocbaa.S
open Go.RowKit Go.Proofs.YthfkgnkojhocbaaW.PrintWords Go.Proofs.YthfkgnkojhocbaaW.PrintLast Go.Proofs.YthfkgnkojhocbaaW.PrintMore
attribute [local go_sem] max2_int min2_int max_two min_two max_three min_three max_four min_four
set_option linter.unusedVariables false
set_option linter.unusedSimpArgs false
def quarrelref13_New.f (k : Nat) (a0_0 : Int) (a0_1 : Int) (a0_2 : Int) (a0_3 : Int) (a0_4 : Int) (a0_5 : Int) (l1 : List Int) : Option (Int) := (quarrelref13_Check.f k a0_0 a0_1 a0_2 a0_3 a0_4 a0_5).bind fun t243 => (if t243 = true then (if (l1.length : Int) = a0_0 then (if (wrap64 (2 * (l1.length : Int))) > a0_2 then (some 4) else (some 0)) else (some 3)) else (some 2))
theorem quarrelref13_New.mono : ∀ a0 a1 a2 a3 a4 a5 a6 k, LeO (quarrelref13_New.f k a0 a1 a2 a3 a4 a5 a6) (quarrelref13_New.f (k + 1) a0 a1 a2 a3 a4 a5 a6) := by
  intro a0 a1 a2 a3 a4 a5 a6 k
  unfold quarrelref13_New.f
  repeat' first
      | (with_reducible exact quarrelref13_Check.mono _ _ _ _ _ _ _)
      | (with_reducible exact LeO.refl _)
      | (with_reducible exact LeO.none _)
      | (with_reducible refine LeO.ite ?_ ?_)
      | (with_reducible refine LeO.bind ?_ (fun _ => ?_))
      | exact quarrelref13_Check.mono _ _ _ _ _ _ _
      | exact LeO.none _
      | refine LeO.ite ?_ ?_
      | refine LeO.bind ?_ (fun _ => ?_)
def quarrelref11_Right.l0 : Nat → List (S80) → Int → Int → Option (Bool)
  | 0, _, _, _ => none
  | k + 1, x0, x1, x5 => if x5 < (x0.length : Int) then (if 0 ≤ x5 then ((quarrelref11_Ok.f k ((rd_T80 x0 x5).f0) ((rd_T80 x0 x5).f1) ((rd_T80 x0 x5).f2) x1).bind fun t245 => (if t245 = true then (quarrelref11_Right.l0 k x0 x1 (wrap64 (x5 + 1))) else (some false))) else (none)) else (if (x0.length : Int) > 0 then (some (decide ((x0.length : Int) < 9))) else (some false))
def quarrelref11_Right.f (k : Nat) (l0 : List (S80)) (a1 : Int) : Option (Bool) := quarrelref11_Right.l0 k l0 a1 0
theorem quarrelref11_Right.mono_l : ∀ k, (∀ y0 y1 y2, LeO (quarrelref11_Right.l0 k y0 y1 y2) (quarrelref11_Right.l0 (k + 1) y0 y1 y2))
  | 0 => fun _ _ _ r h => by simp [quarrelref11_Right.l0] at h
  | k + 1 => by
    have ih0 := quarrelref11_Right.mono_l k
    · intro y0 y1 y2
      unfold quarrelref11_Right.l0
      repeat' first
      | (with_reducible exact ih0 _ _ _)
      | (with_reducible exact quarrelref11_Ok.mono _ _ _ _ _)
      | (with_reducible exact LeO.refl _)
      | (with_reducible exact LeO.none _)
      | (with_reducible refine LeO.ite ?_ ?_)
      | (with_reducible refine LeO.bind ?_ (fun _ => ?_))
      | exact ih0 _ _ _
      | exact quarrelref11_Ok.mono _ _ _ _ _
      | exact LeO.none _
      | refine LeO.ite ?_ ?_
      | refine LeO.bind ?_ (fun _ => ?_)
theorem quarrelref11_Right.mono : ∀ a0 a1 k, LeO (quarrelref11_Right.f k a0 a1) (quarrelref11_Right.f (k + 1) a0 a1) := by
  intro a0 a1 k
  have ih0 := quarrelref11_Right.mono_l k
  unfold quarrelref11_Right.f
  repeat' first
      | (with_reducible exact ih0 _ _ _)
      | (with_reducible exact quarrelref11_Ok.mono _ _ _ _ _)
      | (with_reducible exact LeO.refl _)
      | (with_reducible exact LeO.none _)
      | (with_reducible refine LeO.ite ?_ ?_)
      | (with_reducible refine LeO.bind ?_ (fun _ => ?_))
      | exact ih0 _ _ _
      | exact quarrelref11_Ok.mono _ _ _ _ _
      | exact LeO.none _
      | refine LeO.ite ?_ ?_
      | refine LeO.bind ?_ (fun _ => ?_)
end Go.Proofs.Ythfkgnkojhocbaa.S
end
section
namespace Go.Proofs.Ythfkgnkojhocbaa.S
open Go.RowKit Go.Proofs.YthfkgnkojhocbaaW.PrintWords Go.Proofs.YthfkgnkojhocbaaW.PrintLast Go.Proofs.YthfkgnkojhocbaaW.PrintMore
attribute [local go_sem] max2_int min2_int max_two min_two max_three min_three max_four min_four
set_option linter.unusedVariables false
set_option linter.unusedSimpArgs false
mutual
def quarrelref20_Ok.j0 : Nat → Bool → Int → Int → Int → Int → Int → Int → List Int → List Int → List (List (List (S80))) → List Int → Option (Bool)
  | 0, _, _, _, _, _, _, _, _, _, _, _ => none
  | k + 1, x27, x247000, x247001, x247002, x247003, x247004, x247005, x247006, x247007, x247008, x247009 => if x27 = true then (some false) else (quarrelref20_Ok.l0 k 0 x247000 x247001 x247002 x247003 x247004 x247005 x247006 x247007 x247008 x247009)
def quarrelref20_Ok.l0 : Nat → Int → Int → Int → Int → Int → Int → Int → List Int → List Int → List (List (List (S80))) → List Int → Option (Bool)
  | 0, _, _, _, _, _, _, _, _, _, _, _ => none
  | k + 1, x3, x247000, x247001, x247002, x247003, x247004, x247005, x247006, x247007, x247008, x247009 => if x3 < (x247006.length : Int) then (if 0 ≤ x3 then (if (rd x247006 x3) < (-128) then (some false) else (if (rd x247006 x3) > 127 then (some false) else (quarrelref20_Ok.l0 k (wrap64 (x3 + 1)) x247000 x247001 x247002 x247003 x247004 x247005 x247006 x247007 x247008 x247009))) else (none)) else (quarrelref20_Ok.l1 k 0 x247000 x247001 x247002 x247003 x247004 x247005 x247006 x247007 x247008 x247009)
def quarrelref20_Ok.l1 : Nat → Int → Int → Int → Int → Int → Int → Int → List Int → List Int → List (List (List (S80))) → List Int → Option (Bool)
  | 0, _, _, _, _, _, _, _, _, _, _, _ => none
  | k + 1, x4, x247000, x247001, x247002, x247003, x247004, x247005, x247006, x247007, x247008, x247009 => if x4 < (x247009.length : Int) then (if 0 ≤ x4 then (if (rd x247009 x4) < 0 then (some false) else (if (rd x247009 x4) > 255 then (some false) else (quarrelref20_Ok.l1 k (wrap64 (x4 + 1)) x247000 x247001 x247002 x247003 x247004 x247005 x247006 x247007 x247008 x247009))) else (none)) else (quarrelref20_Ok.l2 k 0 x247000 x247001 x247002 x247003 x247004 x247005 x247006 x247007 x247008 x247009)
def quarrelref20_Ok.l2 : Nat → Int → Int → Int → Int → Int → Int → Int → List Int → List Int → List (List (List (S80))) → List Int → Option (Bool)
  | 0, _, _, _, _, _, _, _, _, _, _, _ => none
  | k + 1, x5, x247000, x247001, x247002, x247003, x247004, x247005, x247006, x247007, x247008, x247009 => if x5 < (x247008.length : Int) then (if 0 ≤ x5 then (if ((rd_L7 x247008 x5).length : Int) > 6 then (some false) else (quarrelref20_Ok.l3 k x5 0 x247000 x247001 x247002 x247003 x247004 x247005 x247006 x247007 x247008 x247009)) else (none)) else (some true)
def quarrelref20_Ok.l3 : Nat → Int → Int → Int → Int → Int → Int → Int → Int → List Int → List Int → List (List (List (S80))) → List Int → Option (Bool)
  | 0, _, _, _, _, _, _, _, _, _, _, _, _ => none
  | k + 1, x5, x6, x247000, x247001, x247002, x247003, x247004, x247005, x247006, x247007, x247008, x247009 => if 0 ≤ x5 then (if x5 < (x247008.length : Int) then (if x6 < ((rd_L7 x247008 x5).length : Int) then (if 0 ≤ x6 then ((quarrelref11_Right.f k (rd_L6 (rd_L7 x247008 x5) x6) x247000).bind fun t256 => (if t256 = true then (quarrelref20_Ok.l3 k x5 (wrap64 (x6 + 1)) x247000 x247001 x247002 x247003 x247004 x247005 x247006 x247007 x247008 x247009) else (some false))) else (none)) else (quarrelref20_Ok.l2 k (wrap64 (x5 + 1)) x247000 x247001 x247002 x247003 x247004 x247005 x247006 x247007 x247008 x247009)) else (none)) else (none)
end
def quarrelref20_Ok.f (k : Nat) (a0_0 : Int) (a0_1 : Int) (a0_2 : Int) (a0_3 : Int) (a0_4 : Int) (a0_5 : Int) (l0_6 : List Int) (l0_7 : List Int) (l0_8 : List (List (List (S80)))) (l0_9 : List Int) : Option (Bool) := (quarrelref13_New.f k a0_0 a0_1 a0_2 a0_3 a0_4 a0_5 l0_6).bind fun t247 => (if t247 = 0 then (if (l0_8.length : Int) = a0_1 then (quarrelref20_Ok.j0 k (decide ((l0_7.length : Int) > 255)) a0_0 a0_1 a0_2 a0_3 a0_4 a0_5 l0_6 l0_7 l0_8 l0_9) else (quarrelref20_Ok.j0 k true a0_0 a0_1 a0_2 a0_3 a0_4 a0_5 l0_6 l0_7 l0_8 l0_9)) else (quarrelref20_Ok.j0 k true a0_0 a0_1 a0_2 a0_3 a0_4 a0_5 l0_6 l0_7 l0_8 l0_9))
theorem quarrelref20_Ok.mono_l : ∀ k, (∀ y0 y1 y2 y3 y4 y5 y6 y7 y8 y9 y10, LeO (quarrelref20_Ok.j0 k y0 y1 y2 y3 y4 y5 y6 y7 y8 y9 y10) (quarrelref20_Ok.j0 (k + 1) y0 y1 y2 y3 y4 y5 y6 y7 y8 y9 y10)) ∧ (∀ y0 y1 y2 y3 y4 y5 y6 y7 y8 y9 y10, LeO (quarrelref20_Ok.l0 k y0 y1 y2 y3 y4 y5 y6 y7 y8 y9 y10) (quarrelref20_Ok.l0 (k + 1) y0 y1 y2 y3 y4 y5 y6 y7 y8 y9 y10)) ∧ (∀ y0 y1 y2 y3 y4 y5 y6 y7 y8 y9 y10, LeO (quarrelref20_Ok.l1 k y0 y1 y2 y3 y4 y5 y6 y7 y8 y9 y10) (quarrelref20_Ok.l1 (k + 1) y0 y1 y2 y3 y4 y5 y6 y7 y8 y9 y10)) ∧ (∀ y0 y1 y2 y3 y4 y5 y6 y7 y8 y9 y10, LeO (quarrelref20_Ok.l2 k y0 y1 y2 y3 y4 y5 y6 y7 y8 y9 y10) (quarrelref20_Ok.l2 (k + 1) y0 y1 y2 y3 y4 y5 y6 y7 y8 y9 y10)) ∧ (∀ y0 y1 y2 y3 y4 y5 y6 y7 y8 y9 y10 y11, LeO (quarrelref20_Ok.l3 k y0 y1 y2 y3 y4 y5 y6 y7 y8 y9 y10 y11) (quarrelref20_Ok.l3 (k + 1) y0 y1 y2 y3 y4 y5 y6 y7 y8 y9 y10 y11))
  | 0 => ⟨fun _ _ _ _ _ _ _ _ _ _ _ r h => by simp [quarrelref20_Ok.j0] at h, fun _ _ _ _ _ _ _ _ _ _ _ r h => by simp [quarrelref20_Ok.l0] at h, fun _ _ _ _ _ _ _ _ _ _ _ r h => by simp [quarrelref20_Ok.l1] at h, fun _ _ _ _ _ _ _ _ _ _ _ r h => by simp [quarrelref20_Ok.l2] at h, fun _ _ _ _ _ _ _ _ _ _ _ _ r h => by simp [quarrelref20_Ok.l3] at h⟩
  | k + 1 => by
    obtain ⟨ih0, ih1, ih2, ih3, ih4⟩ := quarrelref20_Ok.mono_l k
    refine ⟨?_, ?_, ?_, ?_, ?_⟩
    · intro y0 y1 y2 y3 y4 y5 y6 y7 y8 y9 y10
      unfold quarrelref20_Ok.j0
      repeat' first
      | (with_reducible exact ih0 _ _ _ _ _ _ _ _ _ _ _)
      | (with_reducible exact ih1 _ _ _ _ _ _ _ _ _ _ _)
      | (with_reducible exact ih2 _ _ _ _ _ _ _ _ _ _ _)
      | (with_reducible exact ih3 _ _ _ _ _ _ _ _ _ _ _)
      | (with_reducible exact ih4 _ _ _ _ _ _ _ _ _ _ _ _)
      | (with_reducible exact quarrelref11_Right.mono _ _ _)
      | (with_reducible exact quarrelref13_New.mono _ _ _ _ _ _ _ _)
      | (with_reducible exact LeO.refl _)
      | (with_reducible exact LeO.none _)
      | (with_reducible refine LeO.ite ?_ ?_)
      | (with_reducible refine LeO.bind ?_ (fun _ => ?_))
      | exact ih0 _ _ _ _ _ _ _ _ _ _ _
      | exact ih1 _ _ _ _ _ _ _ _ _ _ _
      | exact ih2 _ _ _ _ _ _ _ _ _ _ _
      | exact ih3 _ _ _ _ _ _ _ _ _ _ _
      | exact ih4 _ _ _ _ _ _ _ _ _ _ _ _
      | exact quarrelref11_Right.mono _ _ _
      | exact quarrelref13_New.mono _ _ _ _ _ _ _ _
      | exact LeO.none _
      | refine LeO.ite ?_ ?_
      | refine LeO.bind ?_ (fun _ => ?_)
    · intro y0 y1 y2 y3 y4 y5 y6 y7 y8 y9 y10
      unfold quarrelref20_Ok.l0
      repeat' first
      | (with_reducible exact ih0 _ _ _ _ _ _ _ _ _ _ _)
      | (with_reducible exact ih1 _ _ _ _ _ _ _ _ _ _ _)
      | (with_reducible exact ih2 _ _ _ _ _ _ _ _ _ _ _)
      | (with_reducible exact ih3 _ _ _ _ _ _ _ _ _ _ _)
      | (with_reducible exact ih4 _ _ _ _ _ _ _ _ _ _ _ _)
      | (with_reducible exact quarrelref11_Right.mono _ _ _)
      | (with_reducible exact quarrelref13_New.mono _ _ _ _ _ _ _ _)
      | (with_reducible exact LeO.refl _)
      | (with_reducible exact LeO.none _)
      | (with_reducible refine LeO.ite ?_ ?_)
      | (with_reducible refine LeO.bind ?_ (fun _ => ?_))
      | exact ih0 _ _ _ _ _ _ _ _ _ _ _
      | exact ih1 _ _ _ _ _ _ _ _ _ _ _
      | exact ih2 _ _ _ _ _ _ _ _ _ _ _
      | exact ih3 _ _ _ _ _ _ _ _ _ _ _
      | exact ih4 _ _ _ _ _ _ _ _ _ _ _ _
      | exact quarrelref11_Right.mono _ _ _
      | exact quarrelref13_New.mono _ _ _ _ _ _ _ _
      | exact LeO.none _
      | refine LeO.ite ?_ ?_
      | refine LeO.bind ?_ (fun _ => ?_)
    · intro y0 y1 y2 y3 y4 y5 y6 y7 y8 y9 y10
      unfold quarrelref20_Ok.l1
      repeat' first
      | (with_reducible exact ih0 _ _ _ _ _ _ _ _ _ _ _)
      | (with_reducible exact ih1 _ _ _ _ _ _ _ _ _ _ _)
      | (with_reducible exact ih2 _ _ _ _ _ _ _ _ _ _ _)
      | (with_reducible exact ih3 _ _ _ _ _ _ _ _ _ _ _)
      | (with_reducible exact ih4 _ _ _ _ _ _ _ _ _ _ _ _)
      | (with_reducible exact quarrelref11_Right.mono _ _ _)
      | (with_reducible exact quarrelref13_New.mono _ _ _ _ _ _ _ _)
      | (with_reducible exact LeO.refl _)
      | (with_reducible exact LeO.none _)
      | (with_reducible refine LeO.ite ?_ ?_)
      | (with_reducible refine LeO.bind ?_ (fun _ => ?_))
      | exact ih0 _ _ _ _ _ _ _ _ _ _ _
      | exact ih1 _ _ _ _ _ _ _ _ _ _ _
      | exact ih2 _ _ _ _ _ _ _ _ _ _ _
      | exact ih3 _ _ _ _ _ _ _ _ _ _ _
      | exact ih4 _ _ _ _ _ _ _ _ _ _ _ _
      | exact quarrelref11_Right.mono _ _ _
      | exact quarrelref13_New.mono _ _ _ _ _ _ _ _
      | exact LeO.none _
      | refine LeO.ite ?_ ?_
      | refine LeO.bind ?_ (fun _ => ?_)
    · intro y0 y1 y2 y3 y4 y5 y6 y7 y8 y9 y10
      unfold quarrelref20_Ok.l2
      repeat' first
      | (with_reducible exact ih0 _ _ _ _ _ _ _ _ _ _ _)
      | (with_reducible exact ih1 _ _ _ _ _ _ _ _ _ _ _)
      | (with_reducible exact ih2 _ _ _ _ _ _ _ _ _ _ _)
      | (with_reducible exact ih3 _ _ _ _ _ _ _ _ _ _ _)
      | (with_reducible exact ih4 _ _ _ _ _ _ _ _ _ _ _ _)
      | (with_reducible exact quarrelref11_Right.mono _ _ _)
      | (with_reducible exact quarrelref13_New.mono _ _ _ _ _ _ _ _)
      | (with_reducible exact LeO.refl _)
      | (with_reducible exact LeO.none _)
      | (with_reducible refine LeO.ite ?_ ?_)
      | (with_reducible refine LeO.bind ?_ (fun _ => ?_))
      | exact ih0 _ _ _ _ _ _ _ _ _ _ _
      | exact ih1 _ _ _ _ _ _ _ _ _ _ _
      | exact ih2 _ _ _ _ _ _ _ _ _ _ _
      | exact ih3 _ _ _ _ _ _ _ _ _ _ _
      | exact ih4 _ _ _ _ _ _ _ _ _ _ _ _
      | exact quarrelref11_Right.mono _ _ _
      | exact quarrelref13_New.mono _ _ _ _ _ _ _ _
      | exact LeO.none _
      | refine LeO.ite ?_ ?_
      | refine LeO.bind ?_ (fun _ => ?_)
    · intro y0 y1 y2 y3 y4 y5 y6 y7 y8 y9 y10 y11
      unfold quarrelref20_Ok.l3
      repeat' first
      | (with_reducible exact ih0 _ _ _ _ _ _ _ _ _ _ _)
      | (with_reducible exact ih1 _ _ _ _ _ _ _ _ _ _ _)
      | (with_reducible exact ih2 _ _ _ _ _ _ _ _ _ _ _)
      | (with_reducible exact ih3 _ _ _ _ _ _ _ _ _ _ _)
      | (with_reducible exact ih4 _ _ _ _ _ _ _ _ _ _ _ _)
      | (with_reducible exact quarrelref11_Right.mono _ _ _)
      | (with_reducible exact quarrelref13_New.mono _ _ _ _ _ _ _ _)
      | (with_reducible exact LeO.refl _)
      | (with_reducible exact LeO.none _)
      | (with_reducible refine LeO.ite ?_ ?_)
      | (with_reducible refine LeO.bind ?_ (fun _ => ?_))
      | exact ih0 _ _ _ _ _ _ _ _ _ _ _
      | exact ih1 _ _ _ _ _ _ _ _ _ _ _
      | exact ih2 _ _ _ _ _ _ _ _ _ _ _
      | exact ih3 _ _ _ _ _ _ _ _ _ _ _
      | exact ih4 _ _ _ _ _ _ _ _ _ _ _ _
      | exact quarrelref11_Right.mono _ _ _
      | exact quarrelref13_New.mono _ _ _ _ _ _ _ _
      | exact LeO.none _
      | refine LeO.ite ?_ ?_
      | refine LeO.bind ?_ (fun _ => ?_)
theorem quarrelref20_Ok.mono : ∀ a0 a1 a2 a3 a4 a5 a6 a7 a8 a9 k, LeO (quarrelref20_Ok.f k a0 a1 a2 a3 a4 a5 a6 a7 a8 a9) (quarrelref20_Ok.f (k + 1) a0 a1 a2 a3 a4 a5 a6 a7 a8 a9) := by
  intro a0 a1 a2 a3 a4 a5 a6 a7 a8 a9 k
  obtain ⟨ih0, ih1, ih2, ih3, ih4⟩ := quarrelref20_Ok.mono_l k
  unfold quarrelref20_Ok.f
  repeat' first
      | (with_reducible exact ih0 _ _ _ _ _ _ _ _ _ _ _)
      | (with_reducible exact ih1 _ _ _ _ _ _ _ _ _ _ _)
      | (with_reducible exact ih2 _ _ _ _ _ _ _ _ _ _ _)
      | (with_reducible exact ih3 _ _ _ _ _ _ _ _ _ _ _)
      | (with_reducible exact ih4 _ _ _ _ _ _ _ _ _ _ _ _)
      | (with_reducible exact quarrelref11_Right.mono _ _ _)
      | (with_reducible exact quarrelref13_New.mono _ _ _ _ _ _ _ _)
      | (with_reducible exact LeO.refl _)
      | (with_reducible exact LeO.none _)
      | (with_reducible refine LeO.ite ?_ ?_)
      | (with_reducible refine LeO.bind ?_ (fun _ => ?_))
      | exact ih0 _ _ _ _ _ _ _ _ _ _ _
      | exact ih1 _ _ _ _ _ _ _ _ _ _ _
      | exact ih2 _ _ _ _ _ _ _ _ _ _ _
      | exact ih3 _ _ _ _ _ _ _ _ _ _ _
      | exact ih4 _ _ _ _ _ _ _ _ _ _ _ _
      | exact quarrelref11_Right.mono _ _ _
      | exact quarrelref13_New.mono _ _ _ _ _ _ _ _
      | exact LeO.none _
      | refine LeO.ite ?_ ?_
      | refine LeO.bind ?_ (fun _ => ?_)
end Go.Proofs.Ythfkgnkojhocbaa.S
end
section
namespace Go.Proofs.Ythfkgnkojhocbaa.S
open Go Go.RowKit Go.Proofs.YthfkgnkojhocbaaW.PrintWords
set_option linter.unusedVariables false
set_option linter.unusedSimpArgs false
theorem wrap_id {n : Int} (h : -9223372036854775808 ≤ n ∧ n ≤ 9223372036854775807) : wrap64 n = n := by unfold wrap64; omega
theorem wrap_succ {i : Nat} (h : i ≤ 1000000000000) : wrap64 ((i : Int) + 1) = ((i + 1 : Nat) : Int) := by unfold wrap64; omega
theorem rd_at (l : List Int) (i : Nat) : rd l (i : Int) = l.getD i 0 := by unfold rd; rw [Int.toNat_natCast]
theorem rd6_at (l : List (List S80)) (i : Nat) (h : i < l.length) : rd_L6 l (i : Int) = l[i] := by unfold rd_L6; simp [h]
theorem rd7_at (l : List (List (List S80))) (i : Nat) (h : i < l.length) : rd_L7 l (i : Int) = l[i] := by unfold rd_L7; simp [h]
theorem vals_l (l : List Int) (hl : l.length ≤ 1000000) : ∀ (d k i : Nat), i + d = l.length → d < k → quarrelref01_Vals.l0 k l l (i : Int) = some true := by
  intro d
  induction d with
  | zero =>
    intro k i hi hk
    obtain ⟨k, rfl⟩ : ∃ m, k = m + 1 := ⟨k - 1, by omega⟩
    rw [quarrelref01_Vals.l0, if_neg (show ¬ ((i : Int) < (l.length : Int)) by omega)]
  | succ d ih =>
    intro k i hi hk
    obtain ⟨k, rfl⟩ : ∃ m, k = m + 1 := ⟨k - 1, by omega⟩
    rw [quarrelref01_Vals.l0, if_pos (show (i : Int) < (l.length : Int) by omega), if_pos (show (0 : Int) ≤ (i : Int) by omega), if_pos (show (i : Int) < (l.length : Int) by omega), if_pos rfl, wrap_succ (by omega)]
    exact ih k (i + 1) (by omega) (by omega)
theorem vals_f (l : List Int) (hl : l.length ≤ 1000000) (k : Nat) (hk : l.length < k) : quarrelref01_Vals.f k l l = some true := by
  unfold quarrelref01_Vals.f
  rw [if_pos rfl]
  exact vals_l l hl l.length k 0 (by omega) hk
theorem ints_l (l : List Int) (hl : l.length ≤ 1000000) : ∀ (d k i : Nat), i + d = l.length → d < k → quarrelref01_Ints.l0 k l l (i : Int) = some true := by
  intro d
  induction d with
  | zero =>
    intro k i hi hk
    obtain ⟨k, rfl⟩ : ∃ m, k = m + 1 := ⟨k - 1, by omega⟩
    rw [quarrelref01_Ints.l0, if_neg (show ¬ ((i : Int) < (l.length : Int)) by omega)]
  | succ d ih =>
    intro k i hi hk
    obtain ⟨k, rfl⟩ : ∃ m, k = m + 1 := ⟨k - 1, by omega⟩
    rw [quarrelref01_Ints.l0, if_pos (show (i : Int) < (l.length : Int) by omega), if_pos (show (0 : Int) ≤ (i : Int) by omega), if_pos (show (i : Int) < (l.length : Int) by omega), if_pos rfl, wrap_succ (by omega)]
    exact ih k (i + 1) (by omega) (by omega)
theorem ints_f (l : List Int) (hl : l.length ≤ 1000000) (k : Nat) (hk : l.length < k) : quarrelref01_Ints.f k l l = some true := by
  unfold quarrelref01_Ints.f
  rw [if_pos rfl]
  exact ints_l l hl l.length k 0 (by omega) hk
theorem opsame_l (l : List S80) (hl : l.length ≤ 1000000) : ∀ (d k i : Nat), i + d = l.length → d < k → quarrelref11_Same.l0 k l l (i : Int) = some true := by
  intro d
  induction d with
  | zero =>
    intro k i hi hk
    obtain ⟨k, rfl⟩ : ∃ m, k = m + 1 := ⟨k - 1, by omega⟩
    rw [quarrelref11_Same.l0, if_neg (show ¬ ((i : Int) < (l.length : Int)) by omega)]
  | succ d ih =>
    intro k i hi hk
    obtain ⟨k, rfl⟩ : ∃ m, k = m + 1 := ⟨k - 1, by omega⟩
    rw [quarrelref11_Same.l0, if_pos (show (i : Int) < (l.length : Int) by omega), if_pos (show (0 : Int) ≤ (i : Int) by omega), if_pos (show (i : Int) < (l.length : Int) by omega), wrap_succ (by omega)]
    simp only [beq_self_eq_true, Bool.not_true, Bool.or_self, Bool.false_eq_true, if_false]
    exact ih k (i + 1) (by omega) (by omega)
theorem opsame_f (l : List S80) (hl : l.length ≤ 1000000) (k : Nat) (hk : l.length < k) : quarrelref11_Same.f k l l = some true := by
  unfold quarrelref11_Same.f
  rw [if_pos rfl]
  exact opsame_l l hl l.length k 0 (by omega) hk
/-- Few enough. -/
def Few (t : List (List S80)) : Prop := t.length ≤ 20 ∧ ∀ o ∈ t, o.length ≤ 20
section
variable (x0 x1 x2 x3 x4 x5 : Int) (f d p f' d' p' : List Int) (al : List (List (List S80))) (ha : al.length ≤ 10) (hf : ∀ t ∈ al, Few t)
include ha hf
theorem same_l1 (i : Nat) (hi : i < al.length) (B : Nat) (H : ∀ k, B < k → quarrellaw20_same.l0 k ((i + 1 : Nat) : Int) x0 x1 x2 x3 x4 x5 f d al p x0 x1 x2 x3 x4 x5 f' d' al p' = some true) :
    ∀ (e k j : Nat), j + e = al[i].length → e + 1 + B < k → 30 ≤ B → quarrellaw20_same.l1 k (i : Int) (j : Int) x0 x1 x2 x3 x4 x5 f d al p x0 x1 x2 x3 x4 x5 f' d' al p' = some true := by
  have hF := hf al[i] (List.getElem_mem hi)
  have h7 := rd7_at al i hi
  have h20 := hF.1
  intro e
  induction e with
  | zero =>
    intro k j hj hk hB
    obtain ⟨k, rfl⟩ : ∃ m, k = m + 1 := ⟨k - 1, by omega⟩
    rw [quarrellaw20_same.l1, h7, if_pos (show (0 : Int) ≤ (i : Int) by omega), if_pos (show (i : Int) < (al.length : Int) by omega), if_neg (show ¬ ((j : Int) < (al[i].length : Int)) by omega), wrap_succ (by omega)]
    exact H k (by omega)
  | succ e ih =>
    intro k j hj hk hB
    obtain ⟨k, rfl⟩ : ∃ m, k = m + 1 := ⟨k - 1, by omega⟩
    have hj' : j < al[i].length := by omega
    have hO := hF.2 al[i][j] (List.getElem_mem hj')
    rw [quarrellaw20_same.l1, h7, if_pos (show (0 : Int) ≤ (i : Int) by omega), if_pos (show (i : Int) < (al.length : Int) by omega), if_pos (show (j : Int) < (al[i].length : Int) by omega), if_pos (show (0 : Int) ≤ (j : Int) by omega),
      if_pos (show (i : Int) < (al.length : Int) by omega), if_pos (show (j : Int) < (al[i].length : Int) by omega), rd6_at al[i] j hj', opsame_f _ (by omega) k (by omega), Option.bind_some, if_pos rfl, wrap_succ (by omega)]
    exact ih k (j + 1) (by omega) (by omega) hB
theorem same_l0 : ∀ (e k i : Nat), i + e = al.length → 100 * e + 50 < k → quarrellaw20_same.l0 k (i : Int) x0 x1 x2 x3 x4 x5 f d al p x0 x1 x2 x3 x4 x5 f' d' al p' = some true := by
  intro e
  induction e with
  | zero =>
    intro k i hi hk
    obtain ⟨k, rfl⟩ : ∃ m, k = m + 1 := ⟨k - 1, by omega⟩
    rw [quarrellaw20_same.l0, if_neg (show ¬ ((i : Int) < (al.length : Int)) by omega)]
  | succ e ih =>
    intro k i hi hk
    obtain ⟨k, rfl⟩ : ∃ m, k = m + 1 := ⟨k - 1, by omega⟩
    have hi' : i < al.length := by omega
    have hF := hf al[i] (List.getElem_mem hi')
    have h20 := hF.1
    rw [quarrellaw20_same.l0, if_pos (show (i : Int) < (al.length : Int) by omega), if_pos (show (0 : Int) ≤ (i : Int) by omega), if_pos (show (i : Int) < (al.length : Int) by omega), if_pos rfl]
    exact same_l1 x0 x1 x2 x3 x4 x5 f d p f' d' p' al ha hf i hi' (100 * e + 50) (fun k hk => ih k (i + 1) (by omega) hk) al[i].length k 0 (by omega) (by omega) (by omega)
end
theorem same_f (x0 x1 x2 x3 x4 x5 : Int) (f d p : List Int) (al : List (List (List S80))) (ha : al.length ≤ 10) (hf : ∀ t ∈ al, Few t) (h1 : f.length ≤ 1000000) (h2 : p.length ≤ 1000000) (k : Nat) (hk : 2000000 < k) :
    quarrellaw20_same.f k x0 x1 x2 x3 x4 x5 f d al p x0 x1 x2 x3 x4 x5 f d al p = some true := by
  obtain ⟨k', e⟩ : ∃ m, k = m + 1 := ⟨k - 1, by omega⟩
  unfold quarrellaw20_same.f
  simp only [beq_self_eq_true, Bool.not_true, Bool.or_self, Bool.false_eq_true, if_false]
  rw [vals_f f h1 k (by omega), Option.bind_some, if_pos rfl, if_pos trivial, ints_f p h2 k (by omega), Option.bind_some, if_pos rfl, e, quarrellaw20_same.j0]
  simp only [bne_self_eq_false, Bool.false_eq_true, if_false]
  exact same_l0 x0 x1 x2 x3 x4 x5 f d p f d p al ha hf al.length k' 0 (by omega) (by omega)
section
variable (x0 x1 x2 x3 x4 x5 : Int) (f d : List Int) (al : List (List (List S80))) (ha : al.length ≤ 10)
include ha
end
theorem refCheck_f (c : S25) (k : Nat) (hk : 10 < k) : quarrelref13_Check.f k c.f0 c.f1 c.f2 c.f3 c.f4 c.f5 = some (checkB c) := by
  obtain ⟨k, rfl⟩ : ∃ m, k = m + 7 := ⟨k - 7, by omega⟩
  obtain ⟨a, b, c, d, e, f⟩ := c
  unfold quarrelref13_Check.f checkB
  simp only
  have w : ∀ (i : Nat), i ≤ 100 → wrap64 ((i : Int)) = i := fun i h => wrap_id (by omega)
  simp only [quarrelref13_Check.l0, List.length_cons, List.length_nil]
  simp [wrap64, rd]
  by_cases h0 : a < 1
  · simp [h0] <;> omega
  by_cases h1 : 8 < a
  · simp [h1] <;> omega
  by_cases h2 : b < 1
  · simp [h2] <;> omega
  by_cases h3 : 6 < b
  · simp [h3] <;> omega
  by_cases h4 : c < 1
  · simp [h4] <;> omega
  by_cases h5 : 4096 < c
  · simp [h5] <;> omega
  by_cases h6 : d < 0
  · simp [h6] <;> omega
  by_cases h7 : 255 < d
  · simp [h7] <;> omega
  by_cases h8 : e < 1
  · simp [h8] <;> omega
  by_cases h9 : 4 < e
  · simp [h9] <;> omega
  by_cases h10 : f < 1
  · simp [h10] <;> omega
  by_cases h11 : 64 < f
  · simp [h11] <;> omega
  simp [h0, h1, h2, h3, h4, h5, h6, h7, h8, h9, h10, h11] <;> omega
theorem refOk_f (o : S80) (n : Int) (k : Nat) (hk : 0 < k) : quarrelref11_Ok.f k o.f0 o.f1 o.f2 n = some (okB o n) := by
  obtain ⟨k, rfl⟩ : ∃ m, k = m + 1 := ⟨k - 1, by omega⟩
  obtain ⟨a, b, c⟩ := o
  simp only [quarrelref11_Ok.f, quarrelref11_Ok.j0, okB]
  by_cases h0 : a < 1
  · rw [if_pos h0, if_pos trivial, if_neg (show ¬ (a = 1 ∨ a = 2 ∨ a = 5) by omega), if_neg (show ¬ (a = 3 ∨ a = 4) by omega)]
  rw [if_neg h0]
  by_cases h6 : a > 5
  · rw [if_pos (by simpa using h6), if_neg (show ¬ (a = 1 ∨ a = 2 ∨ a = 5) by omega), if_neg (show ¬ (a = 3 ∨ a = 4) by omega)]
  rw [if_neg (by simpa using h6)]
  by_cases h3 : a = 3
  · rw [if_pos h3, if_neg (show ¬ (a = 1 ∨ a = 2 ∨ a = 5) by omega), if_pos (show a = 3 ∨ a = 4 by omega)]
    by_cases h : b = 0 <;> by_cases h' : c ≥ -128 <;> simp [h, h'] <;> omega
  rw [if_neg h3]
  by_cases h4 : a = 4
  · rw [if_pos h4, if_neg (show ¬ (a = 1 ∨ a = 2 ∨ a = 5) by omega), if_pos (show a = 3 ∨ a = 4 by omega)]
    by_cases h : b = 0 <;> by_cases h' : c ≥ -128 <;> simp [h, h'] <;> omega
  rw [if_neg h4, if_pos (show a = 1 ∨ a = 2 ∨ a = 5 by omega)]
  by_cases h : b ≥ 0 <;> by_cases h' : b < n <;> simp [h, h']
  · rfl
  all_goals omega
section
variable (x0 x1 x2 x3 x4 x5 : Int) (f d : List Int) (al : List (List (List S80))) (p : List Int)
end
end Go.Proofs.Ythfkgnkojhocbaa.S
end
section
namespace Go.Proofs.Ythfkgnkojhocbaa.S
open Go Go.RowKit Go.Proofs.YthfkgnkojhocbaaW.PrintWords
set_option linter.unusedVariables false
set_option linter.unusedSimpArgs false
theorem u8_rng {x : Int} (h : (Lit.int .u8 x).wf = true) : 0 ≤ x ∧ x ≤ 255 := by
  simp [Lit.wf, IntKind.min, IntKind.max, IntKind.signed, IntKind.bits] at h
  omega
theorem u8_isB {l : List Int} (h : ∀ x ∈ l, (Lit.int .u8 x).wf = true) : isB l := fun x hx => u8_rng (h x hx)
theorem isB_bytesB {l : List Int} (h : isB l) : bytesB l = true := by
  unfold bytesB
  rw [List.all_eq_true]
  exact fun x hx => decide_eq_true (h x hx)
theorem getS_f (l : List Int) (hb : isB l) (hm : l.length ≤ 1000000) (k : Nat) : script_Get.f k l = some (flatG (getF l)) := by
  unfold script_Get.f
  rw [if_pos ⟨hm, isB_bytesB hb⟩]
set_option maxRecDepth 100000 in
theorem alive_get : getF [1, 1, 0, 9, 5, 1, 2, 7, 0, 0] = (⟨10, ⟨1, 1, 9, 5, 1, 2⟩, [7], [], [[]], []⟩, -1, 0) := by kernel_rfl
theorem alive_f (k : Nat) (hk : 100 < k) : quarrellaw20_alive.f k = some true := by
  unfold quarrellaw20_alive.f
  rw [getS_f _ (by intro x hx; simp at hx; omega) (by simp) k, alive_get, Option.bind_some]
  have hF : flatG (⟨10, ⟨1, 1, 9, 5, 1, 2⟩, [7], [], [[]], []⟩, -1, 0) = (1, 1, 9, 5, 1, 2, [7], [], [[]], [], -1, 0) := rfl
  rw [hF]
  refine (if_pos rfl).trans ((if_pos rfl).trans ((if_pos rfl).trans ?_))
  rw [vals_f [7] (by simp) k (by simp; omega), Option.bind_some, if_pos rfl]
  refine (if_pos rfl).trans ?_
  show some (wrap64 (((0 : Nat) : Int) + ((0 : Nat) : Int)) == 0) = some true
  simp [wrap64]
theorem OkS.few {c : S25} {f d : List Int} {a : List (List (List S80))} {p : List Int} (h : OkS c f d a p) (hp : p.length ≤ 3000) :
    f.length ≤ 20 ∧ d.length ≤ 3000 ∧ a.length ≤ 10 ∧ (∀ t ∈ a, Few t) ∧ p.length ≤ 3000 := by
  have h0 := h.c0
  have h1 := h.c1
  have h2 := h.fl
  have h3 := h.al
  have h4 := h.dl
  refine ⟨by omega, by omega, by omega, fun t ht => ?_, hp⟩
  obtain ⟨h6, hr⟩ := txnsB_iff (h.at_ t ht)
  refine ⟨by omega, fun o ho => ?_⟩
  obtain ⟨_, h8, _⟩ := rightB_iff (hr o ho)
  omega
/-- A script that was got is few enough. -/
theorem get_few {l : List Int} (hb : isB l) (hm : l.length ≤ 3000) :
    (getF l).1.f.length ≤ 20 ∧ (getF l).1.d.length ≤ 3000 ∧ (getF l).1.a.length ≤ 10 ∧ (∀ t ∈ (getF l).1.a, Few t) ∧ (getF l).1.p.length ≤ 3000 := by
  by_cases h : (getF l).2.2 = 0
  · obtain ⟨ho, hp, _⟩ := get_back hb h
    refine ho.few ?_
    have := congrArg List.length hp
    unfold putF at this
    simp only [List.length_append, List.length_map, List.length_cons] at this
    omega
  · have hg : (getF l).1 = rd0 := by
      unfold getF at h ⊢
      split
      · rfl
      · rename_i h1
        rw [if_neg h1] at h
        exact absurd rfl h
    rw [hg]
    refine ⟨by simp [rd0], by simp [rd0], by simp [rd0], fun t ht => ?_, by simp [rd0]⟩
    simp [rd0] at ht
end Go.Proofs.Ythfkgnkojhocbaa.S
end
section
namespace Go.Proofs.Ythfkgnkojhocbaa.S
open Go Go.RowKit Go.Proofs.YthfkgnkojhocbaaW.PrintWords
set_option linter.unusedVariables false
set_option linter.unusedSimpArgs false
theorem signed_f {x : Int} (h : 0 ≤ x ∧ x ≤ 255) : quarrelref20_signed.f x = some (sgn x) := by
  have e : wrap64 x = x := wrap_id (by omega)
  unfold quarrelref20_signed.f sgn
  rw [e]
  by_cases h1 : x > 127
  · rw [if_pos h1, if_pos h1, wrap_id (by omega)]
  · rw [if_neg h1, if_neg h1]
theorem rd_drop (l : List Int) (i : Nat) : rd l (i : Int) = l.getD i 0 := rd_at l i
section
variable (l : List Int) (hb : isB l) (hm : l.length ≤ 3000)
include hb hm
theorem refTxn_l (obj : Int) (n : Nat) (hn : n ≤ 8) : ∀ (d k i a : Nat) (acc : List S80), i + d = n → d + 2 < k → acc.length + d ≤ 8 → a ≤ l.length →
    quarrelref20_txn.l0 k l (a : Int) obj (n : Int) acc (i : Int) = some ((opsF l obj d a acc).1, ((opsF l obj d a acc).2.2 : Int), (opsF l obj d a acc).2.1) := by
  intro d
  induction d with
  | zero =>
    intro k i a acc hi hk _ _
    obtain ⟨k, rfl⟩ : ∃ m, k = m + 1 := ⟨k - 1, by omega⟩
    rw [quarrelref20_txn.l0, if_neg (show ¬ ((i : Int) < (n : Int)) by omega)]
    rfl
  | succ d ih =>
    intro k i a acc hi hk hacc ha
    obtain ⟨k, rfl⟩ : ∃ m, k = m + 1 := ⟨k - 1, by omega⟩
    have e0 : wrap64 ((l.length : Int) - (a : Int)) = (l.length : Int) - (a : Int) := wrap_id (by omega)
    have e2 : wrap64 ((a : Int) + 2) = ((a + 2 : Nat) : Int) := by unfold wrap64; omega
    have e3 : wrap64 ((a : Int) + 3) = ((a + 3 : Nat) : Int) := by unfold wrap64; omega
    rw [quarrelref20_txn.l0, if_pos (show (i : Int) < (n : Int) by omega), e0, wrap_succ (show a ≤ 1000000000000 by omega), e2, e3, wrap_succ (show i ≤ 1000000000000 by omega)]
    simp only [opsF]
    by_cases hs : l.length < a + 3
    · rw [if_pos (show (l.length : Int) - (a : Int) < 3 by omega), if_pos hs]
    · have b0 := isB_at hb a
      have b1 := isB_at hb (a + 1)
      have b2 := isB_at hb (a + 2)
      rw [if_neg (show ¬ ((l.length : Int) - (a : Int) < 3) by omega), if_neg hs, if_pos (show (0 : Int) ≤ (a : Int) by omega), if_pos (show (a : Int) < (l.length : Int) by omega),
        if_pos (show (0 : Int) ≤ ((a + 1 : Nat) : Int) by omega), if_pos (show ((a + 1 : Nat) : Int) < (l.length : Int) by omega), if_pos (show (0 : Int) ≤ ((a + 2 : Nat) : Int) by omega), if_pos (show ((a + 2 : Nat) : Int) < (l.length : Int) by omega),
        rd_drop, rd_drop, rd_drop, wrap_id (n := l.getD a 0) (by omega), wrap_id (n := l.getD (a + 1) 0) (by omega), signed_f b2, Option.bind_some]
      have hok := refOk_f (opOf l a) obj k (by omega)
      have hop : opOf l a = ⟨l.getD a 0, l.getD (a + 1) 0, sgn (l.getD (a + 2) 0)⟩ := rfl
      rw [hop] at hok
      simp only at hok
      rw [hok, Option.bind_some, hop]
      cases hq : okB ⟨l.getD a 0, l.getD (a + 1) 0, sgn (l.getD (a + 2) 0)⟩ obj with
      | false => rw [if_neg (by simp), if_pos rfl]
      | true =>
        have hlim : acc.length < 5864062014805 := by omega
        rw [if_pos rfl]
        simp only [hlim, ↓reduceIte]
        rw [if_neg (by simp)]
        exact ih k (i + 1) (a + 3) _ (by omega) (by omega) (by simp only [List.length_append, List.length_cons, List.length_nil]; omega) (by omega)
theorem refTxn_f (obj : Int) (a : Nat) (ha : a ≤ l.length) (k : Nat) (hk : 20 < k) :
    quarrelref20_txn.f k l (a : Int) obj = some ((txnF l obj a).1, ((txnF l obj a).2.2 : Int), (txnF l obj a).2.1) := by
  obtain ⟨k, rfl⟩ : ∃ m, k = m + 1 := ⟨k - 1, by omega⟩
  unfold quarrelref20_txn.f txnF
  by_cases h0 : l.length < a + 1
  · have hc : countF l a 1 8 = (0, 9, l.length) := by unfold countF; rw [if_pos h0]
    rw [if_pos (show (a : Int) ≥ (l.length : Int) by omega), hc, if_pos (by simp)]
  · have b0 := isB_at hb a
    rw [if_neg (show ¬ ((a : Int) ≥ (l.length : Int)) by omega), if_pos (show (0 : Int) ≤ (a : Int) by omega), if_pos (show (a : Int) < (l.length : Int) by omega), rd_drop]
    have hjt : quarrelref20_txn.j0 (k + 1) l (a : Int) obj true = some (([] : List S80), (a : Int), 3) := by rw [quarrelref20_txn.j0, if_pos rfl]
    by_cases h1 : l.getD a 0 < 1
    · have hc : countF l a 1 8 = (0, 3, a) := by unfold countF; rw [if_neg h0, if_pos (Or.inl h1)]
      rw [if_pos h1, hjt, hc, if_pos (by simp)]
    · rw [if_neg h1]
      by_cases h8 : l.getD a 0 > 8
      · have hc : countF l a 1 8 = (0, 3, a) := by unfold countF; rw [if_neg h0, if_pos (Or.inr (by omega))]
        rw [decide_eq_true h8, hjt, hc, if_pos (by simp)]
      · obtain ⟨n, hn⟩ : ∃ n : Nat, l.getD a 0 = n := ⟨(l.getD a 0).toNat, by omega⟩
        have hc : countF l a 1 8 = ((n : Int), 0, a + 1) := by unfold countF; rw [if_neg h0, hn, if_neg (by omega)]
        rw [decide_eq_false h8, hc, if_neg (by simp)]
        rw [quarrelref20_txn.j0, if_neg (by simp), if_pos (show (0 : Int) ≤ (a : Int) by omega), if_pos (show (a : Int) < (l.length : Int) by omega), rd_drop, wrap_succ (by omega), wrap_id (by omega), hn]
        simp only [Int.toNat_natCast]
        have := refTxn_l l hb hm obj n (by omega) n k 0 (a + 1) [] (by omega) (by omega) (by simp; omega) (by omega)
        rw [show ((0 : Nat) : Int) = 0 from rfl] at this
        exact this
end
/-- The end: an error and its place, or the script. -/
def fin (r : Int × Rd) : Rd × Int × Int := if r.1 ≠ 0 then (rd0, (r.2.at_ : Int), r.1) else (r.2, -1, 0)
theorem getF_fin (l : List Int) : getF l = fin (runF l 5 0 rd0) := rfl
abbrev bad (at_ e : Int) : Option (Int × Int × Int × Int × Int × Int × List Int × List Int × List (List (List S80)) × List Int × Int × Int) := some (0, 0, 0, 0, 0, 0, [], [], [], [], at_, e)
theorem fin_bad {e : Int} {s : Rd} (he : e ≠ 0) : some (flatG (fin (e, s))) = bad (s.at_ : Int) e := by
  unfold fin
  rw [if_pos he]
  rfl
section
variable (l : List Int) (hb : isB l) (hm : l.length ≤ 3000) (c : S25)
include hb hm
theorem refGet_l4 (f d : List Int) (al : List (List (List S80))) : ∀ (e k a : Nat) (acc : List Int), a + e = l.length → e < k → acc.length + e ≤ 1000000 →
    quarrelref20_Get.l4 k l (a : Int) c.f0 c.f1 c.f2 c.f3 c.f4 c.f5 f d al acc = some (c.f0, c.f1, c.f2, c.f3, c.f4, c.f5, f, d, al, acc ++ l.drop a, -1, 0) := by
  intro e
  induction e with
  | zero =>
    intro k a acc ha hk hL
    obtain ⟨k, rfl⟩ : ∃ m, k = m + 1 := ⟨k - 1, by omega⟩
    rw [quarrelref20_Get.l4, if_neg (show ¬ ((a : Int) < (l.length : Int)) by omega), List.drop_eq_nil_of_le (by omega), List.append_nil]
  | succ e ih =>
    intro k a acc ha hk hL
    obtain ⟨k, rfl⟩ : ∃ m, k = m + 1 := ⟨k - 1, by omega⟩
    have ba := isB_at hb a
    have hlim : acc.length < 17592186044416 := by omega
    rw [quarrelref20_Get.l4, if_pos (show (a : Int) < (l.length : Int) by omega), if_pos (show (0 : Int) ≤ (a : Int) by omega), rd_drop, wrap_id (n := l.getD a 0) (by omega), wrap_succ (by omega)]
    simp only [hlim, ↓reduceIte]
    rw [ih k (a + 1) _ (by omega) (by omega) (by simp only [List.length_append, List.length_cons, List.length_nil]; omega), drop_at (show a < l.length by omega), List.append_assoc]
    rfl
set_option maxRecDepth 100000 in
theorem refGet_l3 (f : List Int) (al : List (List (List S80))) (n : Nat) (hn : n ≤ 255) : ∀ (e k a i : Nat) (acc : List Int), i + e = n → a + e ≤ l.length → e + 4000 < k → acc.length + e ≤ 1000 →
    quarrelref20_Get.l3 k l (a : Int) (n : Int) (i : Int) c.f0 c.f1 c.f2 c.f3 c.f4 c.f5 f acc al = some (c.f0, c.f1, c.f2, c.f3, c.f4, c.f5, f, acc ++ (l.drop a).take e, al, l.drop (a + e), -1, 0) := by
  intro e
  induction e with
  | zero =>
    intro k a i acc hi ha hk hL
    obtain ⟨k, rfl⟩ : ∃ m, k = m + 1 := ⟨k - 1, by omega⟩
    rw [quarrelref20_Get.l3, if_neg (show ¬ ((i : Int) < (n : Int)) by omega), refGet_l4 l hb hm c f acc al (l.length - a) k a [] (by omega) (by omega) (by simp; omega)]
    simp
  | succ e ih =>
    intro k a i acc hi ha hk hL
    obtain ⟨k, rfl⟩ : ∃ m, k = m + 1 := ⟨k - 1, by omega⟩
    have hlim : acc.length < 140737488355328 := by omega
    rw [quarrelref20_Get.l3, if_pos (show (i : Int) < (n : Int) by omega), if_pos (show (0 : Int) ≤ (a : Int) by omega), if_pos (show (a : Int) < (l.length : Int) by omega), rd_drop, wrap_succ (show a ≤ 1000000000000 by omega), wrap_succ (show i ≤ 1000000000000 by omega)]
    simp only [hlim, ↓reduceIte]
    rw [ih k (a + 1) (i + 1) _ (by omega) (by omega) (by omega) (by simp only [List.length_append, List.length_cons, List.length_nil]; omega), drop_at (show a < l.length by omega), List.take_succ_cons, List.append_assoc, show a + 1 + e = a + (e + 1) by omega]
    rfl
set_option maxRecDepth 100000 in
theorem refGet_draws (f : List Int) (al : List (List (List S80))) (a : Nat) (ha : a ≤ l.length) (d0 : List Int) (k : Nat) (hk : 6000 < k) :
    (if (a : Int) ≥ (l.length : Int) then (quarrelref20_Get.j3 k l (a : Int) true c.f0 c.f1 c.f2 c.f3 c.f4 c.f5 f al) else (if 0 ≤ (a : Int) then (if (a : Int) < (l.length : Int) then (quarrelref20_Get.j3 k l (a : Int) (decide ((wrap64 ((wrap64 ((l.length : Int) - (a : Int))) - 1)) < (wrap64 (rd l (a : Int))))) c.f0 c.f1 c.f2 c.f3 c.f4 c.f5 f al) else (none)) else (none)))
      = some (flatG (fin (runF l 2 3 ⟨a, c, f, d0, al, []⟩))) := by
  obtain ⟨k, rfl⟩ : ∃ m, k = m + 1 := ⟨k - 1, by omega⟩
  have hjt : quarrelref20_Get.j3 (k + 1) l (a : Int) true c.f0 c.f1 c.f2 c.f3 c.f4 c.f5 f al = bad (l.length : Int) 9 := by rw [quarrelref20_Get.j3, if_pos rfl]
  by_cases h0 : l.length < a + 1
  · have s3 : stepF l 3 ⟨a, c, f, d0, al, []⟩ = (9, ⟨l.length, c, f, d0, al, []⟩) := by
      show drawsF l _ = _
      unfold drawsF countF
      simp only
      rw [if_pos h0]
      simp
    rw [if_pos (show (a : Int) ≥ (l.length : Int) by omega), hjt, run_bad s3 (by simp), fin_bad (by simp)]
  · have b0 := isB_at hb a
    obtain ⟨n, hn⟩ : ∃ n : Nat, l.getD a 0 = n := ⟨(l.getD a 0).toNat, by omega⟩
    have hc : countF l a 0 255 = ((n : Int), 0, a + 1) := by
      unfold countF
      rw [if_neg h0, hn, if_neg (by omega)]
    rw [if_neg (show ¬ ((a : Int) ≥ (l.length : Int)) by omega), if_pos (show (0 : Int) ≤ (a : Int) by omega), if_pos (show (a : Int) < (l.length : Int) by omega), rd_drop, hn, wrap_id (n := (n : Int)) (by omega), wrap_id (n := (l.length : Int) - (a : Int)) (by omega), wrap_id (n := (l.length : Int) - (a : Int) - 1) (by omega)]
    by_cases h1 : l.length < a + 1 + n
    · have s3 : stepF l 3 ⟨a, c, f, d0, al, []⟩ = (9, ⟨l.length, c, f, d0, al, []⟩) := by
        show drawsF l _ = _
        unfold drawsF
        simp only
        rw [hc]
        simp only [Int.toNat_natCast]
        rw [if_neg (by simp), if_pos h1]
      rw [decide_eq_true (show (l.length : Int) - (a : Int) - 1 < (n : Int) by omega), hjt, run_bad s3 (by simp), fin_bad (by simp)]
    · have s3 : stepF l 3 ⟨a, c, f, d0, al, []⟩ = (0, ⟨a + 1 + n, c, f, (l.drop (a + 1)).take n, al, []⟩) := by
        show drawsF l _ = _
        unfold drawsF
        simp only
        rw [hc]
        simp only [Int.toNat_natCast]
        rw [if_neg (by simp), if_neg h1]
      have s4 : stepF l 4 ⟨a + 1 + n, c, f, (l.drop (a + 1)).take n, al, []⟩ = (0, ⟨a + 1 + n, c, f, (l.drop (a + 1)).take n, al, l.drop (a + 1 + n)⟩) := by
        show picksF l _ = _
        unfold picksF
        simp only [List.nil_append]
      rw [decide_eq_false (show ¬ ((l.length : Int) - (a : Int) - 1 < (n : Int)) by omega), quarrelref20_Get.j3, if_neg (by simp), if_pos (show (0 : Int) ≤ (a : Int) by omega), if_pos (show (a : Int) < (l.length : Int) by omega), rd_drop, hn, wrap_id (n := (n : Int)) (by omega), wrap_succ (by omega)]
      have := refGet_l3 l hb hm c f al n (by omega) n k (a + 1) 0 [] (by omega) (by omega) (by omega) (by simp; omega)
      rw [show ((0 : Nat) : Int) = 0 from rfl] at this
      rw [this, run_good s3, run_good s4]
      rfl
/-- Behind the transactions. -/
def contA (s : Rd) (l : List Int) (r : Int × Nat × List (List (List S80))) : Int × Rd := if r.1 ≠ 0 then (r.1, { s with at_ := r.2.1, a := r.2.2 }) else runF l 2 3 { s with at_ := r.2.1, a := r.2.2 }
def contT (s : Rd) (l : List Int) (obj : Int) (e : Nat) (al : List (List (List S80))) (r : List (List S80) × Int × Nat) : Int × Rd := if r.2.1 ≠ 0 then (r.2.1, { s with at_ := r.2.2, a := al }) else contA s l (allF l obj e r.2.2 (al ++ [r.1]))
omit hb hm in
theorem txnF_le (obj : Int) (a : Nat) (ha : a ≤ l.length) : (txnF l obj a).2.2 ≤ l.length := by
  have ho : ∀ (d a : Nat) (acc : List S80), a ≤ l.length → (opsF l obj d a acc).2.2 ≤ l.length := by
    intro d
    induction d with
    | zero => intro a acc h; exact h
    | succ d ih =>
      intro a acc h
      simp only [opsF]
      split
      · exact Nat.le_refl _
      · split
        · exact h
        · exact ih _ _ (by omega)
  have hc : (countF l a 1 8).2.2 ≤ l.length := by
    unfold countF
    split
    · exact Nat.le_refl _
    · split
      · exact ha
      · simp only; omega
  unfold txnF
  split
  · exact hc
  · exact ho _ _ _ hc
set_option maxRecDepth 100000 in
theorem refGet_l2 (f d0 : List Int) (x9 e : Nat) (hx : x9 ≤ 100) (B : Nat) (hB : 100 ≤ B) (n : Nat) (hn : n ≤ 6) (al : List (List (List S80))) (hal : al.length ≤ 1000)
    (H : ∀ k a tl, B < k → a ≤ l.length → quarrelref20_Get.l1 k l (a : Int) ((x9 + 1 : Nat) : Int) c.f0 c.f1 c.f2 c.f3 c.f4 c.f5 c.f0 c.f1 c.f2 c.f3 c.f4 c.f5 f (al ++ [tl]) = some (flatG (fin (contA ⟨0, c, f, d0, [], []⟩ l (allF l c.f0 e a (al ++ [tl])))))) :
    ∀ (m k a i : Nat) (acc : List (List S80)), i + m = n → a ≤ l.length → m + 1 + B < k → acc.length + m ≤ 1000 →
    quarrelref20_Get.l2 k l (a : Int) (x9 : Int) (n : Int) acc (i : Int) c.f0 c.f1 c.f2 c.f3 c.f4 c.f5 c.f0 c.f1 c.f2 c.f3 c.f4 c.f5 f al = some (flatG (fin (contT ⟨0, c, f, d0, [], []⟩ l c.f0 e al (txnsF l c.f0 m a acc)))) := by
  intro m
  induction m with
  | zero =>
    intro k a i acc hi ha hk hL
    obtain ⟨k, rfl⟩ : ∃ m, k = m + 1 := ⟨k - 1, by omega⟩
    have hlim : al.length < 5864062014805 := by omega
    rw [quarrelref20_Get.l2, if_neg (show ¬ ((i : Int) < (n : Int)) by omega)]
    simp only [hlim, ↓reduceIte]
    rw [wrap_succ (by omega), H k a acc (by omega) ha]
    simp only [txnsF, contT, ne_eq, not_true, if_false]
  | succ m ih =>
    intro k a i acc hi ha hk hL
    obtain ⟨k, rfl⟩ : ∃ m, k = m + 1 := ⟨k - 1, by omega⟩
    have hlim : acc.length < 5864062014805 := by omega
    rw [quarrelref20_Get.l2, if_pos (show (i : Int) < (n : Int) by omega), refTxn_f l hb hm c.f0 a ha k (by omega), Option.bind_some]
    simp only [txnsF]
    by_cases h : (txnF l c.f0 a).2.1 = 0
    · rw [if_pos h]
      simp only [hlim, ↓reduceIte]
      rw [if_neg (by rw [h]; simp), wrap_succ (by omega)]
      exact ih k _ (i + 1) _ (by omega) (txnF_le l c.f0 a ha) (by omega) (by simp only [List.length_append, List.length_cons, List.length_nil]; omega)
    · rw [if_neg h, if_pos h]
      simp only [contT]
      rw [if_pos h, fin_bad h]
set_option maxRecDepth 100000 in
theorem refGet_l1 (f d0 : List Int) (hf1 : c.f1 ≤ 6) : ∀ (e k a x9 : Nat) (al : List (List (List S80))), (x9 : Int) + e = c.f1 → a ≤ l.length → 200 * e + 7000 < k → al.length + e ≤ 100 →
    quarrelref20_Get.l1 k l (a : Int) (x9 : Int) c.f0 c.f1 c.f2 c.f3 c.f4 c.f5 c.f0 c.f1 c.f2 c.f3 c.f4 c.f5 f al = some (flatG (fin (contA ⟨0, c, f, d0, [], []⟩ l (allF l c.f0 e a al)))) := by
  intro e
  induction e with
  | zero =>
    intro k a x9 al hx ha hk hL
    obtain ⟨k, rfl⟩ : ∃ m, k = m + 1 := ⟨k - 1, by omega⟩
    rw [quarrelref20_Get.l1, if_neg (show ¬ ((x9 : Int) < c.f1) by omega), refGet_draws l hb hm c f al a ha d0 k (by omega)]
    simp only [allF, contA, ne_eq, not_true, if_false]
  | succ e ih =>
    intro k a x9 al hx ha hk hL
    obtain ⟨k, rfl⟩ : ∃ m, k = m + 1 := ⟨k - 1, by omega⟩
    have b0 := isB_at hb a
    rw [quarrelref20_Get.l1, if_pos (show (x9 : Int) < c.f1 by omega)]
    simp only [allF]
    by_cases h0 : l.length < a + 1
    · have hc : countF l a 0 6 = (0, 9, l.length) := by unfold countF; rw [if_pos h0]
      rw [if_pos (show (a : Int) ≥ (l.length : Int) by omega), hc, if_pos (by simp)]
      simp only [contA]
      rw [if_pos (by simp), fin_bad (by simp)]
    · rw [if_neg (show ¬ ((a : Int) ≥ (l.length : Int)) by omega), if_pos (show (0 : Int) ≤ (a : Int) by omega), if_pos (show (a : Int) < (l.length : Int) by omega), rd_drop]
      by_cases h6 : l.getD a 0 > 6
      · have hc : countF l a 0 6 = (0, 3, a) := by unfold countF; rw [if_neg h0, if_pos (.inr (by omega))]
        rw [if_pos h6, hc, if_pos (by simp)]
        simp only [contA]
        rw [if_pos (by simp), fin_bad (by simp)]
      · obtain ⟨n, hn⟩ : ∃ n : Nat, l.getD a 0 = n := ⟨(l.getD a 0).toNat, by omega⟩
        have hc : countF l a 0 6 = ((n : Int), 0, a + 1) := by unfold countF; rw [if_neg h0, hn, if_neg (by omega)]
        rw [if_neg h6, hc, if_neg (by simp), hn, wrap_id (n := (n : Int)) (by omega), wrap_succ (by omega)]
        simp only [Int.toNat_natCast]
        have := refGet_l2 l hb hm c f d0 x9 e (by omega) (200 * e + 7000) (by omega) n (by omega) al (by omega)
          (fun k a tl hk ha => ih k a (x9 + 1) (al ++ [tl]) (by omega) ha hk (by simp only [List.length_append, List.length_cons, List.length_nil]; omega)) n k (a + 1) 0 [] (by omega) (by omega) (by omega) (by simp; omega)
        rw [show ((0 : Nat) : Int) = 0 from rfl] at this
        rw [this]
        simp only [contT]
        by_cases ht : (txnsF l c.f0 n (a + 1) []).2.1 = 0
        · rw [if_neg (by rw [ht]; simp), if_neg (by rw [ht]; simp)]
        · rw [if_pos ht, if_pos ht]
          simp only [contA]
          rw [if_pos ht]
set_option maxRecDepth 100000 in
theorem refGet_l0 (hf0 : c.f0 ≤ 8) (hf1 : 1 ≤ c.f1 ∧ c.f1 ≤ 6) (d0 : List Int) : ∀ (e k a i : Nat) (acc : List Int), (i : Int) + e = c.f0 → a ≤ l.length → e + 9000 < k → acc.length + e ≤ 1000 →
    quarrelref20_Get.l0 k l (a : Int) (i : Int) c.f0 c.f1 c.f2 c.f3 c.f4 c.f5 c.f0 c.f1 c.f2 c.f3 c.f4 c.f5 acc =
      if l.length < a + e then bad (l.length : Int) 9 else some (flatG (fin (contA ⟨0, c, acc ++ ((l.drop a).take e).map sgn, d0, [], []⟩ l (allF l c.f0 c.f1.toNat (a + e) [])))) := by
  intro e
  induction e with
  | zero =>
    intro k a i acc hi ha hk hL
    obtain ⟨k, rfl⟩ : ∃ m, k = m + 1 := ⟨k - 1, by omega⟩
    have := refGet_l1 l hb hm c acc d0 hf1.2 c.f1.toNat k a 0 [] (by omega) ha (by omega) (by simp; omega)
    rw [show ((0 : Nat) : Int) = 0 from rfl] at this
    rw [quarrelref20_Get.l0, if_neg (show ¬ ((i : Int) < c.f0) by omega), this, if_neg (by omega)]
    simp
  | succ e ih =>
    intro k a i acc hi ha hk hL
    obtain ⟨k, rfl⟩ : ∃ m, k = m + 1 := ⟨k - 1, by omega⟩
    rw [quarrelref20_Get.l0, if_pos (show (i : Int) < c.f0 by omega)]
    by_cases h0 : l.length < a + 1
    · rw [if_pos (show (a : Int) ≥ (l.length : Int) by omega), if_pos (by omega)]
    · have hlim : acc.length < 17592186044416 := by omega
      rw [if_neg (show ¬ ((a : Int) ≥ (l.length : Int)) by omega), if_pos (show (0 : Int) ≤ (a : Int) by omega), if_pos (show (a : Int) < (l.length : Int) by omega), rd_drop, signed_f (isB_at hb a), Option.bind_some]
      simp only [hlim, ↓reduceIte]
      rw [wrap_succ (show a ≤ 1000000000000 by omega), wrap_succ (show i ≤ 1000000000000 by omega), ih k (a + 1) (i + 1) _ (by omega) (by omega) (by omega) (by simp only [List.length_append, List.length_cons, List.length_nil]; omega)]
      by_cases h1 : l.length < a + (e + 1)
      · rw [if_pos (by omega), if_pos h1]
      · rw [if_neg (by omega), if_neg h1, drop_at (show a < l.length by omega), List.take_succ_cons, List.map_cons, show a + 1 + e = a + (e + 1) by omega, List.append_assoc]
        rfl
end
theorem refGet_f (l : List Int) (hb : isB l) (hm : l.length ≤ 3000) (k : Nat) (hk : 2000000 < k) : quarrelref20_Get.f k l = some (flatG (getF l)) := by
  rw [getF_fin]
  unfold quarrelref20_Get.f
  by_cases h7 : l.length < 7
  · have s0 : stepF l 0 rd0 = (9, { rd0 with at_ := l.length }) := by
      show configF l rd0 = _
      unfold configF
      rw [if_pos (by show l.length < 0 + 7; omega)]
    rw [if_pos (show (l.length : Int) < 7 by omega), run_bad s0 (by simp), fin_bad (by simp)]
  · have b0 := isB_at hb 0
    have b1 := isB_at hb 1
    have b2 := isB_at hb 2
    have b3 := isB_at hb 3
    have b4 := isB_at hb 4
    have b5 := isB_at hb 5
    have b6 := isB_at hb 6
    have r0 : rd l 0 = l.getD 0 0 := rd_at l 0
    have r1 : rd l 1 = l.getD 1 0 := rd_at l 1
    have r2 : rd l 2 = l.getD 2 0 := rd_at l 2
    have r3 : rd l 3 = l.getD 3 0 := rd_at l 3
    have r4 : rd l 4 = l.getD 4 0 := rd_at l 4
    have r5 : rd l 5 = l.getD 5 0 := rd_at l 5
    have r6 : rd l 6 = l.getD 6 0 := rd_at l 6
    rw [if_neg (show ¬ ((l.length : Int) < 7) by omega), if_pos (show (0 : Int) < (l.length : Int) by omega), if_pos (show (1 : Int) < (l.length : Int) by omega), if_pos (show (2 : Int) < (l.length : Int) by omega), if_pos (show (3 : Int) < (l.length : Int) by omega),
      if_pos (show (4 : Int) < (l.length : Int) by omega), if_pos (show (5 : Int) < (l.length : Int) by omega), if_pos (show (6 : Int) < (l.length : Int) by omega), r0, r1, r2, r3, r4, r5, r6,
      wrap_id (n := l.getD 0 0) (by omega), wrap_id (n := l.getD 1 0) (by omega), wrap_id (n := l.getD 2 0) (by omega), wrap_id (n := l.getD 3 0) (by omega), wrap_id (n := l.getD 4 0) (by omega), wrap_id (n := l.getD 5 0) (by omega), wrap_id (n := l.getD 6 0) (by omega),
      wrap_id (n := l.getD 2 0 * 256) (by omega), wrap_id (n := l.getD 2 0 * 256 + l.getD 3 0) (by omega), wrap_id (n := l.getD 0 0 + l.getD 0 0) (by omega)]
    have hcfg : cfgOf l 0 = ⟨l.getD 0 0, l.getD 1 0, l.getD 2 0 * 256 + l.getD 3 0, l.getD 4 0, l.getD 5 0, l.getD 6 0⟩ := rfl
    have hck := refCheck_f (cfgOf l 0) k (by omega)
    rw [hcfg] at hck
    simp only at hck
    rw [hck, Option.bind_some, ← hcfg]
    by_cases hc : checkB (cfgOf l 0) = true
    · have hrec : (cfgOf l 0).f2 = l.getD 2 0 * 256 + l.getD 3 0 := rfl
      have hobj : (cfgOf l 0).f0 = l.getD 0 0 := rfl
      rw [if_pos hc]
      by_cases h2 : l.getD 2 0 * 256 + l.getD 3 0 < l.getD 0 0 + l.getD 0 0
      · have s0 : stepF l 0 rd0 = (4, { rd0 with at_ := 2 }) := by
          show configF l rd0 = _
          unfold configF
          rw [if_neg (by show ¬ (l.length < 0 + 7); omega), show rd0.at_ = 0 from rfl, if_neg (by rw [hc]; simp), if_pos (by rw [hrec, hobj]; omega)]
        rw [if_pos h2, run_bad s0 (by simp), fin_bad (by simp)]
        rfl
      · have hc' := hc
        unfold checkB at hc'
        have hc' := of_decide_eq_true hc'
        rw [if_neg h2]
        have s0 : stepF l 0 rd0 = (0, ⟨7, cfgOf l 0, [], [], [], []⟩) := by
          show configF l rd0 = _
          unfold configF
          rw [if_neg (by show ¬ (l.length < 0 + 7); omega), show rd0.at_ = 0 from rfl, if_neg (by rw [hc]; simp), if_neg (by rw [hrec, hobj]; omega)]
          rfl
        have := refGet_l0 l hb hm (cfgOf l 0) hc'.1.2 hc'.2.1 [] (cfgOf l 0).f0.toNat k 7 0 [] (by omega) (by omega) (by omega) (by simp; omega)
        rw [hcfg] at this
        simp only at this
        rw [show ((0 : Nat) : Int) = 0 from rfl, show ((7 : Nat) : Int) = 7 from rfl] at this
        rw [this, ← hcfg, run_good s0]
        by_cases h8 : l.length < 7 + (l.getD 0 0).toNat
        · have s1 : stepF l 1 ⟨7, cfgOf l 0, [], [], [], []⟩ = (9, ⟨l.length, cfgOf l 0, [], [], [], []⟩) := by
            show firstF l _ = _
            unfold firstF
            simp only
            rw [hobj, if_pos h8]
          rw [if_pos h8, run_bad s1 (by simp), fin_bad (by simp)]
        · have s1 : stepF l 1 ⟨7, cfgOf l 0, [], [], [], []⟩ = (0, ⟨7 + (l.getD 0 0).toNat, cfgOf l 0, ((l.drop 7).take (l.getD 0 0).toNat).map sgn, [], [], []⟩) := by
            show firstF l _ = _
            unfold firstF
            simp only
            rw [hobj, if_neg h8]
            rfl
          rw [if_neg h8, run_good s1]
          simp only [runF, List.nil_append]
          have hR : stepF l (0 + 1 + 1) ⟨7 + (l.getD 0 0).toNat, cfgOf l 0, ((l.drop 7).take (l.getD 0 0).toNat).map sgn, [], [], []⟩ = allR l ⟨7 + (l.getD 0 0).toNat, cfgOf l 0, ((l.drop 7).take (l.getD 0 0).toNat).map sgn, [], [], []⟩ := rfl
          rw [hR]
          unfold allR contA
          simp only
          rfl
    · rw [if_neg hc]
      have s0 : stepF l 0 rd0 = (2, { rd0 with at_ := 0 }) := by
        show configF l rd0 = _
        unfold configF
        rw [if_neg (by show ¬ (l.length < 0 + 7); omega), show rd0.at_ = 0 from rfl, if_pos (by simpa using hc)]
      rw [run_bad s0 (by simp), fin_bad (by simp)]
      rfl
end Go.Proofs.Ythfkgnkojhocbaa.S
end
section
namespace Go.Proofs.Ythfkgnkojhocbaa.Pure
open Go.RowKit Go.Proofs.Ythfkgnkojhocbaa.S Go.Proofs.YthfkgnkojhocbaaW.PrintWords Go.Proofs.YthfkgnkojhocbaaW.PrintLast
set_option linter.unusedVariables false
theorem ScriptReads : quarrellaw20_ScriptReads.Pure := by
  intro l hmax _ hwf
  obtain ⟨k, hk⟩ : ∃ k : Nat, k = 3000000 := ⟨_, rfl⟩
  refine ⟨k, ?_⟩
  have hb := u8_isB hwf
  unfold quarrellaw20_ScriptReads.f
  rw [alive_f k (by omega), Option.bind_some, if_pos rfl]
  by_cases h : (l.length : Int) > 3000
  · rw [if_pos h]
  have hm : l.length ≤ 3000 := by omega
  rw [if_neg h, Option.bind_some]
  have hlim : ([] : List Int).length + l.length < 140737488355328 := by simp; omega
  simp only [hlim, ↓reduceIte]
  rw [List.nil_append, getS_f l hb (by omega) k, Option.bind_some, refGet_f l hb hm k (by omega), Option.bind_some, if_pos rfl, if_pos rfl]
  obtain ⟨h1, h2, h3, h4, h5⟩ := get_few hb hm
  simp only [flatG]
  rw [same_f _ _ _ _ _ _ _ _ _ _ h3 h4 (by omega) (by omega) k (by omega)]
  rfl
end Go.Proofs.Ythfkgnkojhocbaa.Pure
end
section
namespace Go.Proofs.YthfkgnkojhocbaaW.PrintWords
open Go.ChangeShapes Go.WideShapes
/-- A row's slice of whole numbers is no longer than its weight allows. -/
theorem sized_ints {H : Type} {enc : TypeId × Value → H} {P : Program} {W : World} {base : Nat} {spare : Nat → Bool} {held : Bool} {t e : TypeId} {k : IntKind} {a : Option Addr} {len cap : Nat} {d : DataW H} {ps : List MemPlace} {ts : List TypeId} {ds : List (DataW H)} {j : Nat}
    (hsz : (DataW.weightsEach P ts ds).all (· ≤ reachBytes) = true) (ht : ts[j]? = some t) (hd : ds[j]? = some d) (hu : P.underlying t = some (.slice e)) (he : P.underlying e = some (.int k)) (hc : P.cellsOf e = 1) {B : Nat} (hB : P.bytesOf e = B)
    (h : DataW.Trod enc P W base spare held t (.slice a len cap) d ps) : len * B ≤ 140737488351232 := by
  obtain ⟨fuel, hf⟩ := h
  rcases open_ints hu he hc hf with ⟨hcs, _⟩ | ⟨x, l, c, zs, hcs, _, hl, _, hz, hx, _, _⟩
  · simp [Value.cells] at hcs
    obtain ⟨rfl, rfl, rfl⟩ := hcs
    simp
  · simp [Value.cells] at hcs
    obtain ⟨rfl, rfl, rfl⟩ := hcs
    obtain ⟨hx, _⟩ := Prod.mk.inj hx
    subst hx
    have z := sized_slice hsz ht hd hu
    rw [hB] at z
    have hl2 : len ≤ zs.length := by
      rw [hz]
      split
      · exact hl
      · exact Nat.le_refl _
    have h1 : (lits (H := H) k (zs.take len)).length + (lits (H := H) k (zs.drop len)).length = zs.length := by
      simp [lits]
      omega
    rw [h1] at z
    exact Nat.le_trans (Nat.mul_le_mul_right _ hl2) z
end Go.Proofs.YthfkgnkojhocbaaW.PrintWords
end
