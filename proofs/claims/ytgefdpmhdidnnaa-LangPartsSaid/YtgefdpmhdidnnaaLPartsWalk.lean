/- The walk of LangParts, by hand: a region whose order is open at more than one place. Conditions: what its calls come to. Printed by wip/dev/parts.py. -/
import Derived.Test.YtgefdpmhdidnnaaLPlainParts
import Derived.Test.YtgefdpmhdidnnaaLParts0
import Derived.Test.YtgefdpmhdidnnaaLArgs
import Derived.Outline
import Derived.Test.YtgefdpmhdidnnaaPureLangOk
import Derived.Test.YtgefdpmhdidnnaaLx10
namespace Go.Proofs.Ytgefdpmhdidnnaa.L
open Go.RowKit Go.Proofs.YtgefdpmhdidnnaaW.PrintWords Go.Proofs.YtgefdpmhdidnnaaW.PrintLast Go.Proofs.YtgefdpmhdidnnaaW.PrintMore
attribute [local go_sem] max2_int min2_int max_two min_two max_three min_three max_four min_four
set_option linter.unusedVariables false
set_option linter.unusedSimpArgs false
theorem lenAB {x y n : Nat} (hx : x ≤ 50) (hy : y ≤ 50) (hn : n ≤ x + y) : n * 24 ≤ 140737488355328 := by omega
def opensI (a : List S33) : Int := ((Pure.cnt a : Nat) : Int)
theorem opens_f (a : List S33) (h : a.length ≤ 100) : lang_Opens.f 999 a = some (opensI a) := Pure.opens_f a (by omega) 999 (by omega)
theorem opens_app (a b : List S33) (ha : a.length ≤ 50) (hb : b.length ≤ 50) : wrap64 (opensI a + opensI b) = opensI (a ++ b) := by
  have h1 := Pure.cnt_le a
  have h2 := Pure.cnt_le b
  unfold opensI
  rw [show Pure.cnt (a ++ b) = Pure.cnt a + Pure.cnt b from List.countP_append, wrap64_in (by omega)]
  omega
theorem str_app (a b : List S33) : strOfNums (putL (a ++ b)) = strOfNums (putL a) ++ strOfNums (putL b) := by
  apply ByteArray.ext
  simp [strOfNums, putL, ByteArray.data_append]
theorem size_add (a b : List S33) (ha : a.length ≤ 50) (hb : b.length ≤ 50) : (strOfNums (putL a)).size + (strOfNums (putL b)).size ≤ 1000 := by
  rw [strOfNums_size, strOfNums_size, putL_len, putL_len]; omega
theorem same_t (l : List S33) (h : l.length ≤ 100) : quarrelref11_Same.f 999 l l = some true := by
  obtain ⟨r, hr, hi⟩ := same_f l l (by omega) 999 (by omega)
  rw [hr, hi.mpr rfl]
set_option maxHeartbeats 8000000 in
set_option maxRecDepth 100000 in
theorem parts_I (A0 : Option Addr) (c0 : Nat) (a : List S33) (A1 : Option Addr) (c1 : Nat) (b : List S33) (x2 : Int) (w : World) (hr0 : Kd.C k33 w A0 a.length a) (hc0 : a.length ≤ c0) (hr1 : Kd.C k33 w A1 b.length b) (hc1 : b.length ≤ c1)
    (hx0 : 0 ≤ x2) (hx1 : x2 ≤ 255) (ha : a.length ≤ 50) (hb50 : b.length ≤ 50) (ra rb rx : List S33) (hlr : rx.length ≤ 100) (hlab : (ra.length + rb.length) * 24 ≤ 140737488355328) (pa pb px ea eb ex : Int) (hga : lang_Get.f 999 (putL a) (1 + x2 % 8) = some (ra, pa, ea)) (hgb : lang_Get.f 999 (putL b) (1 + x2 % 8) = some (rb, pb, eb)) (hgx : lang_Get.f 999 (putL (a ++ b)) (1 + x2 % 8) = some (rx, px, ex)) (hc : (ea = 0 ∧ eb = 0 ∧ ex = 0 ∧ px = -1 ∧ rx = ra ++ rb) ∨ ((ea = 3 ∨ ea = 0 ∧ eb = 3) ∧ rx = [] ∧ ex = 3 ∧ 0 ≤ px ∧ px % 3 = 0 ∧ px < (putL (a ++ b)).length)) :
    Calls Try.prog 9 #[.slice A0 a.length c0, .slice A1 b.length c1, .int .u8 x2] w fun e w' => e = .returned (.bool true) ∧ Below w.heap.size w w' := by
  have hu33 := Try.underlying33
  have HR0 := Aside0.mk hr0
  have HC0 := Aside0.mk hc0
  have HR1 := Aside0.mk hr1
  have HC1 := Aside0.mk hc1
  clear hr0 hc0 hr1 hc1
  have HB := Aside0.mk (Below.refl w.heap.size w)
  have HGA := Aside0.mk hga
  have HGB := Aside0.mk hgb
  have HA := Aside0.mk ha
  have HBL := Aside0.mk hb50
  have e1 : decide (50 < (a.length : Int)) = false := decide_eq_false (by omega)
  have e2 : decide (50 < (b.length : Int)) = false := decide_eq_false (by omega)
  have e3 : decide (50 < a.length) = false := decide_eq_false (by omega)
  have e4 : decide (50 < b.length) = false := decide_eq_false (by omega)
  have HAL := Aside0.mk (alive_f 999 (by omega))
  have HPA := Aside0.mk (put_f a (by omega) 999 (by omega))
  have HPB := Aside0.mk (put_f b (by omega) 999 (by omega))
  obtain ⟨ab, hab⟩ : ∃ l : List S33, l = a ++ b := ⟨_, rfl⟩
  have hl : ab.length ≤ 100 := by rw [hab, List.length_append]; omega
  rw [← hab] at hgx hc
  have HGX := Aside0.mk hgx
  have HCC := Aside0.mk hc
  clear hga hgb hgx hc
  have HAB := Aside0.mk hab
  have HLX := Aside0.mk hl
  have HPX := Aside0.mk (put_f ab (by omega) 999 (by omega))
  have SZ := Aside0.mk (size_add a b ha hb50)
  have HEQ := Aside0.mk (hab ▸ str_app a b)
  have HQA := Aside0.mk (opens_f a (by omega))
  have HQB := Aside0.mk (opens_f b (by omega))
  have HQX := Aside0.mk (opens_f ab hl)
  have HOP := Aside0.mk (hab ▸ opens_app a b ha hb50)
  have HSM := Aside0.mk (same_t rx hlr)
  have HLR := Aside0.mk hlab
  clear ha hb50 hl hab hlab hlr
  go_enter Try.func9, Try.ntmps9
  go_upto_region 7 with (first | ((with_reducible refine gate_callee (f := 10) rfl ?_); refine goesL_ (some 19) rfl rfl Try.func10 (by kernel_rfl) rfl #[] rfl (by (try simp only [List.map_toArray, List.map_cons, List.map_nil]); first | done | rfl) ?_; (with_reducible refine (quarrellaw11_alive.calls 999 true _ HAL.out).mono ?_); rintro e w6 ⟨rfl, hb⟩; refine ⟨_, rfl, ?_⟩; have n0_ := Aside0.mk (below_step (by repeat (first | (with_reducible first | exact HB.out | apply below_alloc | apply pw_below_drewN | apply below_drew1) | exact HB.out)) hb); clear HB; have HB := n0_; clear n0_ hb) | ((with_reducible refine gate_dst (N := 33) rfl ?_); refine Kd.R_lit k33 _ 33 ?hg (N := 33) ?hd (xs := ([] : List S33)) (inner := []) (ok := fun _ => True) (okp := fun _ => True) ?hr ?hp (fun _ hk => hk) trivial (Below.refl _ _) (Nat.le_refl _) (by simp) ?_; (case hd => rfl); (case hg => rfl); (case hr => first | (go_simp; done) | (go_simp; rfl)); (case hp => exact (Reps.none _ _)); intro v33 w7 ho5 hb hg_ hnew_; clear hg_ hnew_; have n0_ := Aside0.mk (Kd.R_lower ho5 (below_size (by repeat (first | (with_reducible first | exact HB.out | apply below_alloc | apply pw_below_drewN | apply below_drew1) | exact HB.out)))); have n1_ := Aside0.mk (below_step (by repeat (first | (with_reducible first | exact HB.out | apply below_alloc | apply pw_below_drewN | apply below_drew1) | exact HB.out)) hb); clear HB; have HO33 := n0_; have HB := n1_; clear n0_ n1_ hb ho5) | ((with_reducible refine gate_builtin (b := .append) (xs := #[.tmp 33, .tmp 34]) rfl ?_); at_builtin; refine Kd.R_append_rows k33 (w0 := w) w.heap.size rfl (.tmp 33) (.tmp 34) 22 33 (.agg #[(.int .i64 0), (.int .i64 0), (.int .i64 0)]) 24 rfl Try.underlying22 info33 rfl (by decide) (by omega) v33 [] a _ _ _ (fun _ => True) (fun _ => False) rfl rfl ?aO ?aR (fun _ _ h => h) (fun _ h => h.elim) ?aF ?aB ?aS ?aL ?_; (case aR => repeat (first | exact (Kd.C_below HR0.out HB.out) | (with_reducible refine Kd.C_alloc ?_ _) | (with_reducible refine Kd.C_drewN ?_ _) | (with_reducible refine Kd.C_drew ?_))); (case aB => exact (by repeat (first | (with_reducible first | exact HB.out | apply below_alloc | apply pw_below_drewN | apply below_drew1) | exact HB.out))); (case aF => exact (fun _ _ => trivial)); (case aO => exact HO33.out); (case aS => exact (below_size (by repeat (first | (with_reducible first | exact HB.out | apply below_alloc | apply pw_below_drewN | apply below_drew1) | exact HB.out)))); (case aL => exact lenAB HA.out HBL.out (by simp)); intro v35 w8 ho hb hg hat; rw [List.nil_append] at ho; have n0_ := Aside0.mk (hb); have n1_ := Aside0.mk (ho); clear HB; clear HO33; have HB := n0_; have HO35 := n1_; clear n0_ n1_; clear ho hb hg hat) | ((with_reducible refine gate_builtin (b := .append) (xs := #[.tmp 35, .tmp 36]) rfl ?_); at_builtin; refine Kd.R_append_rows k33 (w0 := w) w.heap.size rfl (.tmp 35) (.tmp 36) 22 33 (.agg #[(.int .i64 0), (.int .i64 0), (.int .i64 0)]) 24 rfl Try.underlying22 info33 rfl (by decide) (by omega) v35 a b _ _ _ (fun _ => True) (fun _ => False) rfl rfl ?aO ?aR (fun _ _ h => h) (fun _ h => h.elim) ?aF ?aB ?aS ?aL ?_; (case aR => repeat (first | exact (Kd.C_below HR1.out HB.out) | (with_reducible refine Kd.C_alloc ?_ _) | (with_reducible refine Kd.C_drewN ?_ _) | (with_reducible refine Kd.C_drew ?_))); (case aB => exact (by repeat (first | (with_reducible first | exact HB.out | apply below_alloc | apply pw_below_drewN | apply below_drew1) | exact HB.out))); (case aF => exact (fun _ _ => trivial)); (case aO => exact HO35.out); (case aS => exact (below_size (by repeat (first | (with_reducible first | exact HB.out | apply below_alloc | apply pw_below_drewN | apply below_drew1) | exact HB.out)))); (case aL => exact lenAB HA.out HBL.out (by simp)); intro v37 w9 ho hb hg hat; rw [← HAB.out] at ho; have n0_ := Aside0.mk (hb); have n1_ := Aside0.mk (ho); clear HB; clear HO35; have HB := n0_; have HO37 := n1_; clear n0_ n1_; clear ho hb hg hat))
  obtain ⟨Ax, cx, ex⟩ := Kd.R_slice HO37.out
  subst ex
  go_upto_region 8 with (first | ((with_reducible refine gate_callee (f := 23) rfl ?_); refine goesL_ (some 39) rfl rfl Try.func23 (by kernel_rfl) rfl #[.slice Ax ab.length cx] rfl (by (try simp only [List.map_toArray, List.map_cons, List.map_nil]); first | done | rfl) ?_; (with_reducible refine (lang_Put.calls 999 _ _ ab (putL ab) _ ?side1 ?side2 HPX.out).mono ?_); (case side1 => exact (Kd.R_reads' HO37.out).2.2); (case side2 => exact (Kd.R_reads' HO37.out).2.1); rintro e w10 ⟨v39, rfl, ho0, hb⟩; refine ⟨_, rfl, ?_⟩; have k0_ := Aside0.mk (Kd.R_below HO37.out hb); have n0_ := Aside0.mk (Kd.R_lower ho0 (below_size (by repeat (first | (with_reducible first | exact HB.out | apply below_alloc | apply pw_below_drewN | apply below_drew1) | exact HB.out)))); have n1_ := Aside0.mk (below_step (by repeat (first | (with_reducible first | exact HB.out | apply below_alloc | apply pw_below_drewN | apply below_drew1) | exact HB.out)) hb); clear HO37; have HO37 := k0_; clear k0_; clear HB; have HO39 := n0_; have HB := n1_; clear n0_ n1_ hb ho0))
  have n0_ := Aside0.mk (Kd.R_drew HO37.out); have n1_ := Aside0.mk (Kd.R_drew HO39.out); have n2_ := Aside0.mk (below_drew1 HB.out); clear HO37; clear HO39; clear HB; have HO37 := n0_; have HO39 := n1_; have HB := n2_; clear n0_ n1_ n2_
  refine start_ (n := 20) (S := fun w' => Below w10.drew.heap.size w10.drew w') (ds := []) #[false, false, false, false, false, false, false, false, false, false, false, false, false, false, false, false, false, false, false, false] (by kernel_rfl) rfl rfl (Below.refl _ _) (fun hHeld => ?_)
  generalize w10.drew = wR at HO37 HO39 HB hHeld ⊢
  refine pure_ (i := 0) (N := some 40) (v := ?_) (a' := ?_) #[true, false, false, false, false, false, false, false, false, false, false, false, false, false, false, false, false, false, false, false] rfl rfl (by kernel_rfl) (fun _ _ _ h => h) (Or.inl ⟨by rfl, ?_⟩) ?_ ?_
  rotate_left
  · intro w'
    go_simp
    with_reducible rfl
  rotate_left
  · (try simp only [Act.put, List.setIfInBounds_toArray, List.set_cons_zero, List.set_cons_succ, i64_w, i32_w])
    rfl
  refine take_ (i := 1) (N := some 41) (v := ?_) (a' := ?_) #[true, true, false, false, false, false, false, false, false, false, false, false, false, false, false, false, false, false, false, false] rfl rfl (by kernel_rfl) (fun _ _ _ h => h) (Or.inl ⟨by rfl, ?_⟩) hHeld ?_ ?_
  rotate_left
  · intro w' s0
    have hq := own_string (P := Try.prog) Try.underlying39 Try.underlying5 Try.underlying9 (Kd.own_of_R (Kd.R_below HO39.out s0))
    go_simp
    with_reducible rfl
  rotate_left
  · (try simp only [Act.put, List.setIfInBounds_toArray, List.set_cons_zero, List.set_cons_succ, i64_w, i32_w])
    rfl
  refine pure_ (i := 2) (N := some 42) (v := ?_) (a' := ?_) #[true, true, true, false, false, false, false, false, false, false, false, false, false, false, false, false, false, false, false, false] rfl rfl (by kernel_rfl) (fun _ _ _ h => h) (Or.inl ⟨by rfl, ?_⟩) ?_ ?_
  rotate_left
  · intro w'
    go_simp
    with_reducible rfl
  rotate_left
  · (try simp only [Act.put, List.setIfInBounds_toArray, List.set_cons_zero, List.set_cons_succ, i64_w, i32_w])
    rfl
  refine pure_ (i := 5) (N := some 45) (v := ?_) (a' := ?_) #[true, true, true, false, false, true, false, false, false, false, false, false, false, false, false, false, false, false, false, false] rfl rfl (by kernel_rfl) (fun _ _ _ h => h) (Or.inl ⟨by rfl, ?_⟩) ?_ ?_
  rotate_left
  · intro w'
    go_simp
    with_reducible rfl
  rotate_left
  · (try simp only [Act.put, List.setIfInBounds_toArray, List.set_cons_zero, List.set_cons_succ, i64_w, i32_w])
    rfl
  refine one_ (i := 3) (N := some 43) #[true, true, true, true, false, true, false, false, false, false, false, false, false, false, false, false, false, false, false, false] rfl rfl (by kernel_rfl) (by decide) (fun K hK => ?_)
  refine goes_ Try.func23 (by kernel_rfl) rfl #[.slice A0 a.length c0] (by rfl) rfl rfl (by (try simp only [List.map_toArray, List.map_cons, List.map_nil]); first | done | rfl | (simp only [List.length_drop, List.length_take]; rfl)) ?_
  with_reducible refine (lang_Put.calls 999 _ _ a (putL a) _ ?side1 ?side2 HPA.out).mono ?_
  (case side1 => exact Kd.C_below HR0.out HB.out)
  (case side2 => exact HC0.out)
  rintro e w11 ⟨v43, rfl, ho0, hb⟩
  refine ⟨_, rfl, ?_⟩
  have hh := below_step hHeld hb; clear hHeld; have hHeld := hh; clear hh
  have ho1 := Aside0.mk (Kd.R_lower ho0 (below_size HB.out)); clear ho0; have HO43 := ho1; clear ho1
  have n0_ := Aside0.mk (Kd.R_below HO37.out hb); have n1_ := Aside0.mk (Kd.R_below HO39.out hb); have n2_ := Aside0.mk (below_step HB.out hb); clear HO37; clear HO39; clear HB; have HO37 := n0_; have HO39 := n1_; have HB := n2_; clear n0_ n1_ n2_; clear hb
  refine hK.out _ _ hHeld (fun _ => ?_)
  clear hK K
  refine norm_ (a' := ?_) ?_ ?_
  rotate_left
  · show Act.put _ (some 43) _ = _
    (try simp only [Act.put, List.setIfInBounds_toArray, List.set_cons_zero, List.set_cons_succ, i64_w, i32_w])
    rfl
  refine swap_S (S' := fun w' => Below w11.heap.size w11 w') (fun w' h' => below_step hHeld h') _ _ _ _ (Below.refl _ _) ?_
  clear hHeld; have hHeld := Below.refl w11.heap.size w11
  refine take_ (i := 4) (N := some 44) (v := ?_) (a' := ?_) #[true, true, true, true, true, true, false, false, false, false, false, false, false, false, false, false, false, false, false, false] rfl rfl (by kernel_rfl) (fun _ _ _ h => h) (Or.inl ⟨by rfl, ?_⟩) hHeld ?_ ?_
  rotate_left
  · intro w' s0
    have hq := own_string (P := Try.prog) Try.underlying39 Try.underlying5 Try.underlying9 (Kd.own_of_R (Kd.R_below HO43.out s0))
    go_simp
    with_reducible rfl
  rotate_left
  · (try simp only [Act.put, List.setIfInBounds_toArray, List.set_cons_zero, List.set_cons_succ, i64_w, i32_w])
    rfl
  refine one_ (i := 6) (N := some 46) #[true, true, true, true, true, true, true, false, false, false, false, false, false, false, false, false, false, false, false, false] rfl rfl (by kernel_rfl) (by decide) (fun K hK => ?_)
  refine goes_ Try.func23 (by kernel_rfl) rfl #[.slice A1 b.length c1] (by rfl) rfl rfl (by (try simp only [List.map_toArray, List.map_cons, List.map_nil]); first | done | rfl | (simp only [List.length_drop, List.length_take]; rfl)) ?_
  with_reducible refine (lang_Put.calls 999 _ _ b (putL b) _ ?side1 ?side2 HPB.out).mono ?_
  (case side1 => exact Kd.C_below HR1.out HB.out)
  (case side2 => exact HC1.out)
  rintro e w12 ⟨v46, rfl, ho0, hb⟩
  refine ⟨_, rfl, ?_⟩
  have hh := below_step hHeld hb; clear hHeld; have hHeld := hh; clear hh
  have ho1 := Aside0.mk (Kd.R_lower ho0 (below_size HB.out)); clear ho0; have HO46 := ho1; clear ho1
  have n0_ := Aside0.mk (Kd.R_below HO37.out hb); have n1_ := Aside0.mk (Kd.R_below HO39.out hb); have n2_ := Aside0.mk (Kd.R_below HO43.out hb); have n3_ := Aside0.mk (below_step HB.out hb); clear HO37; clear HO39; clear HO43; clear HB; have HO37 := n0_; have HO39 := n1_; have HO43 := n2_; have HB := n3_; clear n0_ n1_ n2_ n3_; clear hb
  refine hK.out _ _ hHeld (fun _ => ?_)
  clear hK K
  refine norm_ (a' := ?_) ?_ ?_
  rotate_left
  · show Act.put _ (some 46) _ = _
    (try simp only [Act.put, List.setIfInBounds_toArray, List.set_cons_zero, List.set_cons_succ, i64_w, i32_w])
    rfl
  refine swap_S (S' := fun w' => Below w12.heap.size w12 w') (fun w' h' => below_step hHeld h') _ _ _ _ (Below.refl _ _) ?_
  clear hHeld; have hHeld := Below.refl w12.heap.size w12
  refine take_ (i := 7) (N := some 47) (v := ?_) (a' := ?_) #[true, true, true, true, true, true, true, true, false, false, false, false, false, false, false, false, false, false, false, false] rfl rfl (by kernel_rfl) (fun _ _ _ h => h) (Or.inl ⟨by rfl, ?_⟩) hHeld ?_ ?_
  rotate_left
  · intro w' s0
    have hq := own_string (P := Try.prog) Try.underlying39 Try.underlying5 Try.underlying9 (Kd.own_of_R (Kd.R_below HO46.out s0))
    go_simp
    with_reducible rfl
  rotate_left
  · (try simp only [Act.put, List.setIfInBounds_toArray, List.set_cons_zero, List.set_cons_succ, i64_w, i32_w])
    rfl
  refine pure_ (i := 8) (N := some 48) (v := ?_) (a' := ?_) #[true, true, true, true, true, true, true, true, true, false, false, false, false, false, false, false, false, false, false, false] rfl rfl (by kernel_rfl) (fun _ _ _ h => h) (Or.inl ⟨by rfl, ?_⟩) ?_ ?_
  rotate_left
  · intro w'
    go_simp
    rw [if_neg (by have := SZ.out; omega)]
  rotate_left
  · (try simp only [Act.put, List.setIfInBounds_toArray, List.set_cons_zero, List.set_cons_succ, i64_w, i32_w])
    rfl
  refine pure_ (i := 9) (N := some 49) (v := ?_) (a' := ?_) #[true, true, true, true, true, true, true, true, true, true, false, false, false, false, false, false, false, false, false, false] rfl rfl (by kernel_rfl) (fun _ _ _ h => h) (Or.inl ⟨by rfl, ?_⟩) ?_ ?_
  rotate_left
  · intro w'
    go_simp
    rw [HEQ.out, beq_self_eq_true, Bool.not_true]
  rotate_left
  · (try simp only [Act.put, List.setIfInBounds_toArray, List.set_cons_zero, List.set_cons_succ, i64_w, i32_w])
    rfl
  refine pure_ (i := 10) (N := some 50) (v := ?_) (a' := ?_) #[true, true, true, true, true, true, true, true, true, true, true, false, false, false, false, false, false, false, false, false] rfl rfl (by kernel_rfl) (fun _ _ _ h => h) (Or.inl ⟨by rfl, ?_⟩) ?_ ?_
  rotate_left
  · intro w'
    go_simp
    with_reducible rfl
  rotate_left
  · (try simp only [Act.put, List.setIfInBounds_toArray, List.set_cons_zero, List.set_cons_succ, i64_w, i32_w])
    rfl
  refine pure_ (i := 11) (N := some 51) (v := ?_) (a' := ?_) #[true, true, true, true, true, true, true, true, true, true, true, true, false, false, false, false, false, false, false, false] rfl rfl (by kernel_rfl) (fun _ _ _ h => h) (Or.inl ⟨by rfl, ?_⟩) ?_ ?_
  rotate_left
  · intro w'
    go_simp
    with_reducible rfl
  rotate_left
  · (try simp only [Act.put, List.setIfInBounds_toArray, List.set_cons_zero, List.set_cons_succ, i64_w, i32_w])
    rfl
  refine pure_ (i := 13) (N := some 53) (v := ?_) (a' := ?_) #[true, true, true, true, true, true, true, true, true, true, true, true, false, true, false, false, false, false, false, false] rfl rfl (by kernel_rfl) (fun _ _ _ h => h) (Or.inl ⟨by rfl, ?_⟩) ?_ ?_
  rotate_left
  · intro w'
    go_simp
    with_reducible rfl
  rotate_left
  · (try simp only [Act.put, List.setIfInBounds_toArray, List.set_cons_zero, List.set_cons_succ, i64_w, i32_w])
    rfl
  refine pure_ (i := 15) (N := some 55) (v := ?_) (a' := ?_) #[true, true, true, true, true, true, true, true, true, true, true, true, false, true, false, true, false, false, false, false] rfl rfl (by kernel_rfl) (fun _ _ _ h => h) (Or.inl ⟨by rfl, ?_⟩) ?_ ?_
  rotate_left
  · intro w'
    go_simp
    with_reducible rfl
  rotate_left
  · (try simp only [Act.put, List.setIfInBounds_toArray, List.set_cons_zero, List.set_cons_succ, i64_w, i32_w])
    rfl
  refine one_ (i := 12) (N := some 52) #[true, true, true, true, true, true, true, true, true, true, true, true, true, true, false, true, false, false, false, false] rfl rfl (by kernel_rfl) (by decide) (fun K hK => ?_)
  refine goes_ Try.func19 (by kernel_rfl) rfl #[.slice Ax ab.length cx] (by rfl) rfl rfl (by (try simp only [List.map_toArray, List.map_cons, List.map_nil]); first | done | rfl | (simp only [List.length_drop, List.length_take]; rfl)) ?_
  with_reducible refine (lang_Opens.calls 999 _ _ ab (opensI ab) _ ?side1 ?side2 HQX.out).mono ?_
  (case side1 => exact (Kd.R_reads' HO37.out).2.2)
  (case side2 => exact (Kd.R_reads' HO37.out).2.1)
  rintro e w13 ⟨rfl, hb⟩
  refine ⟨_, rfl, ?_⟩
  have hh := below_step hHeld hb; clear hHeld; have hHeld := hh; clear hh
  have n0_ := Aside0.mk (Kd.R_below HO37.out hb); have n1_ := Aside0.mk (Kd.R_below HO39.out hb); have n2_ := Aside0.mk (Kd.R_below HO43.out hb); have n3_ := Aside0.mk (Kd.R_below HO46.out hb); have n4_ := Aside0.mk (below_step HB.out hb); clear HO37; clear HO39; clear HO43; clear HO46; clear HB; have HO37 := n0_; have HO39 := n1_; have HO43 := n2_; have HO46 := n3_; have HB := n4_; clear n0_ n1_ n2_ n3_ n4_; clear hb
  refine hK.out _ _ hHeld (fun _ => ?_)
  clear hK K
  refine norm_ (a' := ?_) ?_ ?_
  rotate_left
  · show Act.put _ (some 52) _ = _
    (try simp only [Act.put, List.setIfInBounds_toArray, List.set_cons_zero, List.set_cons_succ, i64_w, i32_w])
    rfl
  
  refine one_ (i := 14) (N := some 54) #[true, true, true, true, true, true, true, true, true, true, true, true, true, true, true, true, false, false, false, false] rfl rfl (by kernel_rfl) (by decide) (fun K hK => ?_)
  refine goes_ Try.func19 (by kernel_rfl) rfl #[.slice A0 a.length c0] (by rfl) rfl rfl (by (try simp only [List.map_toArray, List.map_cons, List.map_nil]); first | done | rfl | (simp only [List.length_drop, List.length_take]; rfl)) ?_
  with_reducible refine (lang_Opens.calls 999 _ _ a (opensI a) _ ?side1 ?side2 HQA.out).mono ?_
  (case side1 => exact Kd.C_below HR0.out HB.out)
  (case side2 => exact HC0.out)
  rintro e w14 ⟨rfl, hb⟩
  refine ⟨_, rfl, ?_⟩
  have hh := below_step hHeld hb; clear hHeld; have hHeld := hh; clear hh
  have n0_ := Aside0.mk (Kd.R_below HO37.out hb); have n1_ := Aside0.mk (Kd.R_below HO39.out hb); have n2_ := Aside0.mk (Kd.R_below HO43.out hb); have n3_ := Aside0.mk (Kd.R_below HO46.out hb); have n4_ := Aside0.mk (below_step HB.out hb); clear HO37; clear HO39; clear HO43; clear HO46; clear HB; have HO37 := n0_; have HO39 := n1_; have HO43 := n2_; have HO46 := n3_; have HB := n4_; clear n0_ n1_ n2_ n3_ n4_; clear hb
  refine hK.out _ _ hHeld (fun _ => ?_)
  clear hK K
  refine norm_ (a' := ?_) ?_ ?_
  rotate_left
  · show Act.put _ (some 54) _ = _
    (try simp only [Act.put, List.setIfInBounds_toArray, List.set_cons_zero, List.set_cons_succ, i64_w, i32_w])
    rfl
  
  refine one_ (i := 16) (N := some 56) #[true, true, true, true, true, true, true, true, true, true, true, true, true, true, true, true, true, false, false, false] rfl rfl (by kernel_rfl) (by decide) (fun K hK => ?_)
  refine goes_ Try.func19 (by kernel_rfl) rfl #[.slice A1 b.length c1] (by rfl) rfl rfl (by (try simp only [List.map_toArray, List.map_cons, List.map_nil]); first | done | rfl | (simp only [List.length_drop, List.length_take]; rfl)) ?_
  with_reducible refine (lang_Opens.calls 999 _ _ b (opensI b) _ ?side1 ?side2 HQB.out).mono ?_
  (case side1 => exact Kd.C_below HR1.out HB.out)
  (case side2 => exact HC1.out)
  rintro e w15 ⟨rfl, hb⟩
  refine ⟨_, rfl, ?_⟩
  have hh := below_step hHeld hb; clear hHeld; have hHeld := hh; clear hh
  have n0_ := Aside0.mk (Kd.R_below HO37.out hb); have n1_ := Aside0.mk (Kd.R_below HO39.out hb); have n2_ := Aside0.mk (Kd.R_below HO43.out hb); have n3_ := Aside0.mk (Kd.R_below HO46.out hb); have n4_ := Aside0.mk (below_step HB.out hb); clear HO37; clear HO39; clear HO43; clear HO46; clear HB; have HO37 := n0_; have HO39 := n1_; have HO43 := n2_; have HO46 := n3_; have HB := n4_; clear n0_ n1_ n2_ n3_ n4_; clear hb
  refine hK.out _ _ hHeld (fun _ => ?_)
  clear hK K
  refine norm_ (a' := ?_) ?_ ?_
  rotate_left
  · show Act.put _ (some 56) _ = _
    (try simp only [Act.put, List.setIfInBounds_toArray, List.set_cons_zero, List.set_cons_succ, i64_w, i32_w])
    rfl
  
  refine pure_ (i := 17) (N := some 57) (v := ?_) (a' := ?_) #[true, true, true, true, true, true, true, true, true, true, true, true, true, true, true, true, true, true, false, false] rfl rfl (by kernel_rfl) (fun _ _ _ h => h) (Or.inl ⟨by rfl, ?_⟩) ?_ ?_
  rotate_left
  · intro w'
    go_simp
    with_reducible rfl
  rotate_left
  · (try simp only [Act.put, List.setIfInBounds_toArray, List.set_cons_zero, List.set_cons_succ, i64_w, i32_w])
    rfl
  refine pure_ (i := 18) (N := some 58) (v := ?_) (a' := ?_) #[true, true, true, true, true, true, true, true, true, true, true, true, true, true, true, true, true, true, true, false] rfl rfl (by kernel_rfl) (fun _ _ _ h => h) (Or.inl ⟨by rfl, ?_⟩) ?_ ?_
  rotate_left
  · intro w'
    go_simp
    first | rw [HOP.out, beq_self_eq_true, Bool.not_true] | rw [HOP.out, bne_self_eq_false] | (simp only [i64_w]; rw [HOP.out, beq_self_eq_true, Bool.not_true])
  rotate_left
  · (try simp only [Act.put, List.setIfInBounds_toArray, List.set_cons_zero, List.set_cons_succ, i64_w, i32_w])
    rfl
  refine pure_ (i := 19) (N := some 59) (v := ?_) (a' := ?_) #[true, true, true, true, true, true, true, true, true, true, true, true, true, true, true, true, true, true, true, true] rfl rfl (by kernel_rfl) (fun _ _ _ h => h) (Or.inl ⟨by rfl, ?_⟩) ?_ ?_
  rotate_left
  · intro w'
    go_simp
    with_reducible rfl
  rotate_left
  · (try simp only [Act.put, List.setIfInBounds_toArray, List.set_cons_zero, List.set_cons_succ, i64_w, i32_w])
    rfl
  refine done_ (by kernel_rfl) ?_
  clear hHeld HO37 HO43 HO46
  obtain ⟨A9, c9, e9⟩ := Kd.R_slice HO39.out
  subst e9
  go_upto_region 13 with (first | ((with_reducible refine gate_callee (f := 23) rfl ?_); refine goesL_ (some 62) rfl rfl Try.func23 (by kernel_rfl) rfl #[.slice A0 a.length c0] rfl (by (try simp only [List.map_toArray, List.map_cons, List.map_nil]); first | done | rfl) ?_; (with_reducible refine (lang_Put.calls 999 _ _ a (putL a) _ ?side1 ?side2 HPA.out).mono ?_); (case side1 => exact Kd.C_below HR0.out HB.out); (case side2 => exact HC0.out); rintro e w20 ⟨v62, rfl, ho0, hb⟩; refine ⟨_, rfl, ?_⟩; (obtain ⟨A62, c62, ee⟩ := Kd.R_slice ho0; subst ee); have k0_ := Aside0.mk (Kd.R_below HO39.out hb); have n0_ := Aside0.mk (Kd.R_lower (ho0) (below_size (by repeat (first | (with_reducible first | exact HB.out | apply below_alloc | apply pw_below_drewN | apply below_drew1) | exact HB.out)))); have n1_ := Aside0.mk (below_step (by repeat (first | (with_reducible first | exact HB.out | apply below_alloc | apply pw_below_drewN | apply below_drew1) | exact HB.out)) hb); clear HO39; have HO39 := k0_; clear k0_; clear HB; have HO62 := n0_; have HB := n1_; clear n0_ n1_ hb ho0) | ((with_reducible refine gate_callee (f := 20) rfl ?_); refine goesL_ (some 64) rfl rfl Try.func20 (by kernel_rfl) rfl #[.slice A62 (putL a).length c62, .int .i64 (1 + x2 % 8)] rfl (by (try simp only [List.map_toArray, List.map_cons, List.map_nil]); first | done | rfl) ?_; (with_reducible refine (lang_Get.calls 999 _ _ (putL a) (1 + x2 % 8) ra pa ea _ ?side1 ?side2 HGA.out).mono ?_); (case side1 => exact (Kd.R_reads' HO62.out).2.2); (case side2 => exact (Kd.R_reads' HO62.out).2.1); rintro e w21 ⟨v64, rfl, ho0, hb⟩; refine ⟨_, rfl, ?_⟩; (obtain ⟨A64, c64, ee⟩ := Kd.R_slice ho0; subst ee); have k0_ := Aside0.mk (Kd.R_below HO39.out hb); have n0_ := Aside0.mk (Kd.R_lower (ho0) (below_size (by repeat (first | (with_reducible first | exact HB.out | apply below_alloc | apply pw_below_drewN | apply below_drew1) | exact HB.out)))); have n1_ := Aside0.mk (below_step (by repeat (first | (with_reducible first | exact HB.out | apply below_alloc | apply pw_below_drewN | apply below_drew1) | exact HB.out)) hb); clear HO39; have HO39 := k0_; clear k0_; clear HB; have HO64 := n0_; have HB := n1_; clear n0_ n1_ hb ho0) | ((with_reducible refine gate_callee (f := 23) rfl ?_); refine goesL_ (some 70) rfl rfl Try.func23 (by kernel_rfl) rfl #[.slice A1 b.length c1] rfl (by (try simp only [List.map_toArray, List.map_cons, List.map_nil]); first | done | rfl) ?_; (with_reducible refine (lang_Put.calls 999 _ _ b (putL b) _ ?side1 ?side2 HPB.out).mono ?_); (case side1 => exact Kd.C_below HR1.out HB.out); (case side2 => exact HC1.out); rintro e w22 ⟨v70, rfl, ho0, hb⟩; refine ⟨_, rfl, ?_⟩; (obtain ⟨A70, c70, ee⟩ := Kd.R_slice ho0; subst ee); have k0_ := Aside0.mk (Kd.R_below HO39.out hb); have k1_ := Aside0.mk (Kd.R_below HO64.out hb); have n0_ := Aside0.mk (Kd.R_lower (ho0) (below_size (by repeat (first | (with_reducible first | exact HB.out | apply below_alloc | apply pw_below_drewN | apply below_drew1) | exact HB.out)))); have n1_ := Aside0.mk (below_step (by repeat (first | (with_reducible first | exact HB.out | apply below_alloc | apply pw_below_drewN | apply below_drew1) | exact HB.out)) hb); clear HO39; have HO39 := k0_; clear k0_; clear HO64; have HO64 := k1_; clear k1_; clear HB; have HO70 := n0_; have HB := n1_; clear n0_ n1_ hb ho0) | ((with_reducible refine gate_callee (f := 20) rfl ?_); refine goesL_ (some 72) rfl rfl Try.func20 (by kernel_rfl) rfl #[.slice A70 (putL b).length c70, .int .i64 (1 + x2 % 8)] rfl (by (try simp only [List.map_toArray, List.map_cons, List.map_nil]); first | done | rfl) ?_; (with_reducible refine (lang_Get.calls 999 _ _ (putL b) (1 + x2 % 8) rb pb eb _ ?side1 ?side2 HGB.out).mono ?_); (case side1 => exact (Kd.R_reads' HO70.out).2.2); (case side2 => exact (Kd.R_reads' HO70.out).2.1); rintro e w23 ⟨v72, rfl, ho0, hb⟩; refine ⟨_, rfl, ?_⟩; (obtain ⟨A72, c72, ee⟩ := Kd.R_slice ho0; subst ee); have k0_ := Aside0.mk (Kd.R_below HO39.out hb); have k1_ := Aside0.mk (Kd.R_below HO64.out hb); have n0_ := Aside0.mk (Kd.R_lower (ho0) (below_size (by repeat (first | (with_reducible first | exact HB.out | apply below_alloc | apply pw_below_drewN | apply below_drew1) | exact HB.out)))); have n1_ := Aside0.mk (below_step (by repeat (first | (with_reducible first | exact HB.out | apply below_alloc | apply pw_below_drewN | apply below_drew1) | exact HB.out)) hb); clear HO39; have HO39 := k0_; clear k0_; clear HO64; have HO64 := k1_; clear k1_; clear HB; have HO72 := n0_; have HB := n1_; clear n0_ n1_ hb ho0) | ((with_reducible refine gate_callee (f := 20) rfl ?_); refine goesL_ (some 79) rfl rfl Try.func20 (by kernel_rfl) rfl #[.slice A9 (putL ab).length c9, .int .i64 (1 + x2 % 8)] rfl (by (try simp only [List.map_toArray, List.map_cons, List.map_nil]); first | done | rfl) ?_; (with_reducible refine (lang_Get.calls 999 _ _ (putL ab) (1 + x2 % 8) rx px ex _ ?side1 ?side2 HGX.out).mono ?_); (case side1 => exact (Kd.R_reads' HO39.out).2.2); (case side2 => exact (Kd.R_reads' HO39.out).2.1); rintro e w24 ⟨v79, rfl, ho0, hb⟩; refine ⟨_, rfl, ?_⟩; (obtain ⟨A79, c79, ee⟩ := Kd.R_slice ho0; subst ee); have k0_ := Aside0.mk (Kd.R_below HO39.out hb); have k1_ := Aside0.mk (Kd.R_below HO64.out hb); have k2_ := Aside0.mk (Kd.R_below HO72.out hb); have n0_ := Aside0.mk (Kd.R_lower (Kd.R_newR ho0 HO64.out) (below_size (by repeat (first | (with_reducible first | exact HB.out | apply below_alloc | apply pw_below_drewN | apply below_drew1) | exact HB.out)))); have n1_ := Aside0.mk (below_step (by repeat (first | (with_reducible first | exact HB.out | apply below_alloc | apply pw_below_drewN | apply below_drew1) | exact HB.out)) hb); clear HO39; have HO39 := k0_; clear k0_; clear HO64; have HO64 := k1_; clear k1_; clear HO72; have HO72 := k2_; clear k2_; clear HB; have HO79 := n0_; have HB := n1_; clear n0_ n1_ hb ho0))
  obtain ⟨rfl, rfl, rfl, rfl, hrx⟩ | ⟨he, rfl, rfl, p0, p1, p2⟩ := HCC.out
  · have HRX := Aside0.mk hrx
    clear hrx
    go_wp2_with (first | ((with_reducible refine gate_builtin (b := .append) (xs := #[.tmp 119, .tmp 120]) rfl ?_); refine guarded_ ?_; refine Kd.R_append_rows_step k33 (w0 := w) w.heap.size (by rfl) (.tmp 119) (.tmp 120) 22 33 (.agg #[(.int .i64 0), (.int .i64 0), (.int .i64 0)]) 24 rfl Try.underlying22 info33 rfl (by decide) (by omega) (.slice A64 ra.length c64) ra rb _ _ _ (fun _ => True) (fun _ => False) rfl rfl ?aO ?aR (fun _ _ h => h) (fun _ h => h.elim) ?aF ?aB ?aS ?aL ?_; (case aR => exact (Kd.R_reads' HO72.out).2.2); (case aB => exact (by repeat (first | (with_reducible first | exact HB.out | apply below_alloc | apply pw_below_drewN | apply below_drew1) | exact HB.out))); (case aF => exact (fun _ _ => trivial)); (case aO => exact HO64.out); (case aS => exact (below_size (by repeat (first | (with_reducible first | exact HB.out | apply below_alloc | apply pw_below_drewN | apply below_drew1) | exact HB.out)))); (case aL => exact HLR.out); intro v121 w25 ho hb hg hat; rw [← HRX.out] at ho; (obtain ⟨A121, c121, ee⟩ := Kd.R_slice ho; subst ee); have h79 := Aside0.mk (Kd.R_grown HO79.out hg (fun k hk => hk.2)); clear HO79; have HO79 := h79; clear h79; have n1_ := Aside0.mk ho; clear HB; have HB := Aside0.mk hb; have HO121 := n1_; clear n1_; clear ho hb hg hat) | (go_at_call 22; (with_reducible refine (quarrelref11_Same.calls 999 _ _ rx _ _ rx true _ ?side1 ?side2 ?side3 ?side4 HSM.out).mono ?_); (case side1 => exact (Kd.R_reads' HO79.out).2.2); (case side2 => exact (Kd.R_reads' HO79.out).2.1); (case side3 => exact (Kd.R_reads' HO121.out).2.2); (case side4 => exact (Kd.R_reads' HO121.out).2.1); rintro e w26 ⟨rfl, ⟨nd, rfl⟩⟩))
    go_ret
    exact ⟨by first | rfl | (simp; done) | (simp [*]; done), by repeat (first | (with_reducible first | exact HB.out | apply below_alloc | apply pw_below_drewN | apply below_drew1) | exact HB.out)⟩
  · have d0 : decide (0 ≤ px) = true := decide_eq_true p0
    have d2 : decide (px < ((putL ab).length : Int)) = true := decide_eq_true p2
    rcases he with rfl | ⟨rfl, rfl⟩
    · go_wp2
      go_ret
      exact ⟨by first | rfl | (simp; done) | (simp [*]; done), by repeat (first | (with_reducible first | exact HB.out | apply below_alloc | apply pw_below_drewN | apply below_drew1) | exact HB.out)⟩
    · go_wp2
      go_ret
      exact ⟨by first | rfl | (simp; done) | (simp [*]; done), by repeat (first | (with_reducible first | exact HB.out | apply below_alloc | apply pw_below_drewN | apply below_drew1) | exact HB.out)⟩
set_option maxHeartbeats 8000000 in
set_option maxRecDepth 100000 in
theorem parts_long (A0 : Option Addr) (c0 : Nat) (a : List S33) (A1 : Option Addr) (c1 : Nat) (b : List S33) (x2 : Int) (w : World)
    (hx0 : 0 ≤ x2) (hx1 : x2 ≤ 255) (hl : 50 < a.length ∨ a.length ≤ 50 ∧ 50 < b.length) :
    Calls Try.prog 9 #[.slice A0 a.length c0, .slice A1 b.length c1, .int .u8 x2] w fun e w' => e = .returned (.bool true) ∧ Below w.heap.size w w' := by
  have HB := Aside0.mk (Below.refl w.heap.size w)
  have HAL := Aside0.mk (alive_f 999 (by omega))
  rcases hl with ha | ⟨ha, hb⟩
  · have e1 : decide (50 < (a.length : Int)) = true := decide_eq_true (by omega)
    have e3 : decide (50 < a.length) = true := decide_eq_true (by omega)
    go_enter Try.func9, Try.ntmps9
    go_wp2_with (first | ((with_reducible refine gate_callee (f := 10) rfl ?_); refine goesL_ (some 19) rfl rfl Try.func10 (by kernel_rfl) rfl #[] rfl (by (try simp only [List.map_toArray, List.map_cons, List.map_nil]); first | done | rfl) ?_; (with_reducible refine (quarrellaw11_alive.calls 999 true _ HAL.out).mono ?_); rintro e w6 ⟨rfl, hb⟩; refine ⟨_, rfl, ?_⟩; have n0_ := Aside0.mk (below_step (by repeat (first | (with_reducible first | exact HB.out | apply below_alloc | apply pw_below_drewN | apply below_drew1) | exact HB.out)) hb); clear HB; have HB := n0_; clear n0_ hb))
    go_ret
    exact ⟨rfl, by repeat (first | (with_reducible first | exact HB.out | apply below_alloc | apply pw_below_drewN | apply below_drew1) | exact HB.out)⟩
  · have e1 : decide (50 < (a.length : Int)) = false := decide_eq_false (by omega)
    have e3 : decide (50 < a.length) = false := decide_eq_false (by omega)
    have e2 : decide (50 < (b.length : Int)) = true := decide_eq_true (by omega)
    have e4 : decide (50 < b.length) = true := decide_eq_true (by omega)
    go_enter Try.func9, Try.ntmps9
    go_wp2_with (first | ((with_reducible refine gate_callee (f := 10) rfl ?_); refine goesL_ (some 19) rfl rfl Try.func10 (by kernel_rfl) rfl #[] rfl (by (try simp only [List.map_toArray, List.map_cons, List.map_nil]); first | done | rfl) ?_; (with_reducible refine (quarrellaw11_alive.calls 999 true _ HAL.out).mono ?_); rintro e w6 ⟨rfl, hb⟩; refine ⟨_, rfl, ?_⟩; have n0_ := Aside0.mk (below_step (by repeat (first | (with_reducible first | exact HB.out | apply below_alloc | apply pw_below_drewN | apply below_drew1) | exact HB.out)) hb); clear HB; have HB := n0_; clear n0_ hb))
    go_ret
    exact ⟨rfl, by repeat (first | (with_reducible first | exact HB.out | apply below_alloc | apply pw_below_drewN | apply below_drew1) | exact HB.out)⟩

theorem byte_bounds {x : Int} (h : (Lit.int .u8 x).wf = true) : 0 ≤ x ∧ x ≤ 255 := by
  simp [Lit.wf, IntKind.min, IntKind.max, IntKind.signed, IntKind.bits] at h
  omega
theorem parts_short (A0 : Option Addr) (c0 : Nat) (a : List S33) (A1 : Option Addr) (c1 : Nat) (b : List S33) (x2 : Int) (w : World) (hr0 : Kd.C k33 w A0 a.length a) (hc0 : a.length ≤ c0) (hr1 : Kd.C k33 w A1 b.length b) (hc1 : b.length ≤ c1)
    (hx0 : 0 ≤ x2) (hx1 : x2 ≤ 255) (ha : a.length ≤ 50) (hb : b.length ≤ 50) :
    Calls Try.prog 9 #[.slice A0 a.length c0, .slice A1 b.length c1, .int .u8 x2] w fun e w' => e = .returned (.bool true) ∧ Below w.heap.size w w' := by
  have ga := getP_f (1 + x2 % 8) a (by omega) 999 (by omega)
  have gb := getP_f (1 + x2 % 8) b (by omega) 999 (by omega)
  have gx := getP_f (1 + x2 % 8) (a ++ b) (by rw [List.length_append]; omega) 999 (by omega)
  rcases hA : (a.map tr).all (okB · (1 + x2 % 8)) with _ | _
  · obtain ⟨m, hm, ea⟩ := get_putF (1 + x2 % 8) a 0 [] hA
    have hX : ((a ++ b).map tr).all (okB · (1 + x2 % 8)) = false := by rw [List.map_append, List.all_append, hA]; rfl
    obtain ⟨n, hn, ex⟩ := get_putF (1 + x2 % 8) (a ++ b) 0 [] hX
    rw [ea] at ga
    rw [ex] at gx
    rcases hB : (b.map tr).all (okB · (1 + x2 % 8)) with _ | _
    · obtain ⟨q, hq, eb⟩ := get_putF (1 + x2 % 8) b 0 [] hB
      rw [eb] at gb
      exact parts_I A0 c0 a A1 c1 b x2 w hr0 hc0 hr1 hc1 hx0 hx1 ha hb _ _ _ (by simp) (by simp) _ _ _ _ _ _ ga gb gx (Or.inr ⟨Or.inl rfl, rfl, rfl, by omega, by omega, by rw [putL_len]; omega⟩)
    · rw [get_putT _ b 0 [] hB] at gb
      exact parts_I A0 c0 a A1 c1 b x2 w hr0 hc0 hr1 hc1 hx0 hx1 ha hb _ _ _ (by simp) (by simp; omega) _ _ _ _ _ _ ga gb gx (Or.inr ⟨Or.inl rfl, rfl, rfl, by omega, by omega, by rw [putL_len]; omega⟩)
  · rw [get_putT _ a 0 [] hA] at ga
    rcases hB : (b.map tr).all (okB · (1 + x2 % 8)) with _ | _
    · obtain ⟨q, hq, eb⟩ := get_putF (1 + x2 % 8) b 0 [] hB
      rw [eb] at gb
      have hX : ((a ++ b).map tr).all (okB · (1 + x2 % 8)) = false := by rw [List.map_append, List.all_append, hA, hB]; rfl
      obtain ⟨n, hn, ex⟩ := get_putF (1 + x2 % 8) (a ++ b) 0 [] hX
      rw [ex] at gx
      exact parts_I A0 c0 a A1 c1 b x2 w hr0 hc0 hr1 hc1 hx0 hx1 ha hb _ _ _ (by simp) (by simp; omega) _ _ _ _ _ _ ga gb gx (Or.inr ⟨Or.inr ⟨rfl, rfl⟩, rfl, rfl, by omega, by omega, by rw [putL_len]; omega⟩)
    · rw [get_putT _ b 0 [] hB] at gb
      have hX : ((a ++ b).map tr).all (okB · (1 + x2 % 8)) = true := by rw [List.map_append, List.all_append, hA, hB]; rfl
      rw [get_putT _ (a ++ b) 0 [] hX] at gx
      exact parts_I A0 c0 a A1 c1 b x2 w hr0 hc0 hr1 hc1 hx0 hx1 ha hb _ _ _ (by simp; omega) (by simp; omega) _ _ _ _ _ _ ga gb gx (Or.inl ⟨rfl, rfl, rfl, rfl, by simp⟩)
theorem parts_calls (A0 : Option Addr) (c0 : Nat) (a : List S33) (A1 : Option Addr) (c1 : Nat) (b : List S33) (x2 : Int) (w : World) (hr0 : Kd.C k33 w A0 a.length a) (hc0 : a.length ≤ c0) (hr1 : Kd.C k33 w A1 b.length b) (hc1 : b.length ≤ c1)
    (hx : (Lit.int .u8 x2).wf = true) :
    Calls Try.prog 9 #[.slice A0 a.length c0, .slice A1 b.length c1, .int .u8 x2] w fun e w' => e = .returned (.bool true) ∧ Below w.heap.size w w' := by
  obtain ⟨hx0, hx1⟩ := byte_bounds hx
  by_cases ha : a.length ≤ 50
  · by_cases hb : b.length ≤ 50
    · exact parts_short A0 c0 a A1 c1 b x2 w hr0 hc0 hr1 hc1 hx0 hx1 ha hb
    · exact parts_long A0 c0 a A1 c1 b x2 w hx0 hx1 (Or.inr ⟨ha, by omega⟩)
  · exact parts_long A0 c0 a A1 c1 b x2 w hx0 hx1 (Or.inl (by omega))
end Go.Proofs.Ytgefdpmhdidnnaa.L
