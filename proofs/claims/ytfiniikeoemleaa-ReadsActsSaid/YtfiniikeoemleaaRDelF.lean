/- DeleteFunc with the closure of Unclaimed, and Unclaimed. Conditions: the state, the row. Printed by wip/dev/gen12h.py. -/
import Derived.Test.YtfiniikeoemleaaRUnc
namespace Go.Proofs.Ytfiniikeoemleaa.R
open Go Go.RowKit Go.Proofs.YtfiniikeoemleaaW.PrintWords Go.Proofs.YtfiniikeoemleaaW.PrintLast Go.Proofs.YtfiniikeoemleaaW.PrintMore
attribute [local go_sem] max2_int min2_int max_two min_two max_three min_three max_four min_four
set_option linter.unusedVariables false
set_option linter.unusedSimpArgs false

theorem start_filter (os : List S33) (l : List S30) (k : Nat) (hk : k < l.length) (h : (has33 os (l[k]).f0).2 = true) (hb : ∀ j (hj : j < k), (has33 os (l[j]'(by omega)).f0).2 = false) :
    l.take k = (l.take (k + 1)).filter (fun x => !(has33 os x.f0).2) := by
  rw [List.take_succ_eq_append_getElem hk, List.filter_append]
  have h1 : (l.take k).filter (fun x => !(has33 os x.f0).2) = l.take k := List.filter_eq_self.2 (fun x hx => by
    obtain ⟨j, hj, rfl⟩ := List.getElem_of_mem hx
    rw [List.length_take] at hj
    rw [List.getElem_take]
    simp [hb j (by omega)])
  rw [h1]
  simp [h]
theorem rd_drop {cur l : List S30} {j : Nat} (h : cur.drop j = l.drop j) (hj : j < l.length) : rd_T30 cur (j : Int) = l[j] := by
  have h1 : cur[j]? = l[j]? := by
    have := congrArg (fun (x : List S30) => x[0]?) h
    simpa using this
  simp [rd_T30, List.getD_eq_getElem?_getD, h1, List.getElem?_eq_getElem hj]
theorem step_true {p : S30 → Bool} {cur l : List S30} {i j : Nat} (hT : cur.take i = (l.take j).filter p) (hj : j < l.length) (hx : p l[j] = false) : cur.take i = (l.take (j + 1)).filter p := by
  rw [List.take_succ_eq_append_getElem hj, List.filter_append, ← hT]
  simp [hx]
theorem step_false {p : S30 → Bool} {cur l : List S30} {i j : Nat} (hT : cur.take i = (l.take j).filter p) (hj : j < l.length) (hij : i < j) (hcl : cur.length = l.length) (hx : p l[j] = true) : (cur.set i l[j]).take (i + 1) = (l.take (j + 1)).filter p := by
  rw [List.take_succ_eq_append_getElem hj, List.filter_append, ← hT, List.take_succ_eq_append_getElem (by rw [List.length_set]; omega)]
  simp [hx, List.take_set_of_le]
theorem step_drop {cur l : List S30} {j : Nat} (h : cur.drop j = l.drop j) : cur.drop (j + 1) = l.drop (j + 1) := by
  rw [← List.drop_drop, h, List.drop_drop]
theorem step_drop_set {cur l : List S30} {i j : Nat} (h : cur.drop j = l.drop j) (hij : i < j) (y : S30) : (cur.set i y).drop (j + 1) = l.drop (j + 1) := by
  rw [List.drop_set_of_lt (by omega)]
  exact step_drop h
theorem mineIdx_callsE (base g P : Nat) (rs : List S30) (os : List S33) (A0 : Option Addr) (c0 : Nat) (l0 : List S30) (r : Int) (w : World) (hi : mineIdx os l0 = r) (hr0 : Kd.C k30 w A0 l0.length l0) (h : IsR base w g rs os) (hp : w.cell? ⟨P, 0, none⟩ = some (.pointer (some ⟨g, 0, none⟩))) :
    Calls Try.prog 34 #[.slice A0 l0.length c0, .func (.func 32) #[] #[.pointer (some ⟨P, 0, none⟩)]] w fun e w' => e = .returned (.int .i64 r) ∧ Below w.heap.size w w' := hi ▸ mineIdx_calls base g P rs os A0 c0 l0 w hr0 h hp
set_option maxHeartbeats 8000000 in
set_option maxRecDepth 100000 in
theorem delfunc_calls (base g P : Nat) (rs : List S30) (os : List S33) (A : Option Addr) (c : Nat) (l : List S30) (w0 w : World) (h : IsR base w0 g rs os) (hp : w0.cell? ⟨P, 0, none⟩ = some (.pointer (some ⟨g, 0, none⟩))) (hb0 : Below w0.heap.size w0 w) (hr : Kd.R k30 30 w w0.heap.size (fun _ => True) (.slice A l.length c) l) :
    Calls Try.prog 31 #[.slice A l.length c, .func (.func 32) #[] #[.pointer (some ⟨P, 0, none⟩)]] w fun e w' => ∃ v1 : Value, e = .returned v1 ∧ Kd.R k30 30 w' w0.heap.size (fun _ => True) v1 (l.filter (fun x => !(has33 os x.f0).2)) ∧ Below w0.heap.size w0 w' := by
  have hmax : l.length ≤ 9223372036854775807 := Kd.C_max (Kd.R_reads' hr).2.2
  have hlc : l.length ≤ c := (Kd.R_reads' hr).2.1
  have HLC := Aside0.mk hlc
  have HS := Aside0.mk h
  have HP := Aside0.mk hp
  have HB := Aside0.mk hb0
  have HR := Aside0.mk hr
  have hu30 := Try.underlying30
  clear h hp hb0 hr
  rcases mineIdx_cases os l with ⟨hi, ha⟩ | ⟨k0, hk0, hi, hm, hbf⟩
  · have hfl : l.filter (fun x => !(has33 os x.f0).2) = l := List.filter_eq_self.2 (fun x hx => by simp [ha x hx])
    have IDX := Aside0.mk hi
    rw [hfl]
    clear hi ha hfl
    go_enter Try.func31, Try.ntmps31
    go_wp2_with (first | ((with_reducible refine gate_callee (f := 34) rfl ?_); refine goesL_ (some 10) rfl rfl Try.func34 (by kernel_rfl) rfl #[.slice A l.length c, .func (.func 32) #[] #[.pointer (some ⟨P, 0, none⟩)]] rfl (by (try simp only [List.map_toArray, List.map_cons, List.map_nil]); first | done | rfl | (simp only [List.length_drop, List.length_take]; rfl)) ?_; (refine (mineIdx_callsE base g P rs os A c l (-1) _ IDX.out (Kd.R_reads' HR.out).2.2 (HS.out.below HB.out) ((HB.out.cell (World.block_lt_of_cell? _ _ HP.out)).trans HP.out)).mono ?_); rintro e w2 ⟨rfl, hb⟩; refine ⟨_, rfl, ?_⟩; have n_HB := Aside0.mk (below_then HB.out HB.out.size hb); have n_HR := Aside0.mk (Kd.R_below HR.out hb); clear HB HR; have HB := n_HB; clear n_HB; have HR := n_HR; clear n_HR; clear hb))
    go_ret
    exact ⟨_, rfl, HR.out, HB.out⟩
  · obtain ⟨b, eb, hbb⟩ := block30 HR.out hk0
    subst eb
    have IDX := Aside0.mk hi
    have HBB := Aside0.mk hbb
    have HK0 := Aside0.mk hk0
    have START := Aside0.mk (start_filter os l k0 hk0 hm hbf)
    have n1 : ((k0 : Int) == -1) = false := by rw [beq_eq_false_iff_ne]; omega
    have n2 : (k0 : Int) + 1 ≤ 9223372036854775807 := by omega
    clear hi hm hbf hbb
    go_enter Try.func31, Try.ntmps31
    go_upto_region 2 with (first | ((with_reducible refine gate_callee (f := 34) rfl ?_); refine goesL_ (some 10) rfl rfl Try.func34 (by kernel_rfl) rfl #[.slice (some ⟨b, 0, none⟩) l.length c, .func (.func 32) #[] #[.pointer (some ⟨P, 0, none⟩)]] rfl (by (try simp only [List.map_toArray, List.map_cons, List.map_nil]); first | done | rfl | (simp only [List.length_drop, List.length_take]; rfl)) ?_; (refine (mineIdx_callsE base g P rs os (some ⟨b, 0, none⟩) c l (k0 : Int) _ IDX.out (Kd.R_reads' HR.out).2.2 (HS.out.below HB.out) ((HB.out.cell (World.block_lt_of_cell? _ _ HP.out)).trans HP.out)).mono ?_); rintro e w2 ⟨rfl, hb⟩; refine ⟨_, rfl, ?_⟩; have n_HB := Aside0.mk (below_then HB.out HB.out.size hb); have n_HR := Aside0.mk (Kd.R_below HR.out hb); clear HB HR; have HB := n_HB; clear n_HB; have HR := n_HR; clear n_HR; clear hb))
    go_wp2
    go_loopg [5, 6, 7] l.length (fun gg s5 s6 s7 wr => ∃ (i j : Nat) (cur : List S30), i < j ∧ j ≤ l.length ∧ l.length - j ≤ gg ∧ s5 = .int .i64 i ∧ s6 = .int .i64 j ∧ cur.length = l.length ∧ Aside0 (cur.take i = (l.take j).filter (fun x => !(has33 os x.f0).2)) ∧ Aside0 (cur.drop j = l.drop j) ∧ Aside0 (Kd.R k30 30 wr w0.heap.size (fun _ => True) (.slice (some ⟨b, 0, none⟩) l.length c) cur) ∧ Aside0 (Below w0.heap.size w0 wr))
    case atStart => exact ⟨k0, k0 + 1, l, by omega, by have := HK0.out; omega, by omega, rfl, by go_num, rfl, START, ⟨rfl⟩, HR, HB⟩
    case round =>
      clear HB HR
      obtain ⟨i, j, cur, hij, hjl, hgg, rfl, rfl, hcl, HT, HD, HR, HB⟩ := hrel
      have HIJ := Aside0.mk hij
      have HCL := Aside0.mk hcl
      by_cases hlt : j < l.length
      · have hltz : (j : Int) < (l.length : Int) := by omega
        have HLT := Aside0.mk hlt
        have hrd : rd_T30 cur (j : Int) = l[j] := rd_drop HD.out hlt
        obtain ⟨ad, ea, h0, h1, h2⟩ := at_T30 (Kd.R_reads' HR.out).2.2 (j : Int) (by omega) (by omega)
        injection ea with ea
        subst ea
        rw [hrd] at h0 h1 h2
        simp only [Int.toNat_natCast, Addr.add_lit, Nat.zero_add] at h0 h1 h2
        have HW := Aside0.mk (Below.refl wr.heap.size wr)
        have hjz : (j : Int) + 1 ≤ 9223372036854775807 := by omega
        have hiz : (i : Int) + 1 ≤ 9223372036854775807 := by omega
        have h0i : (0 : Int) ≤ (i : Int) := by omega
        have hil : (i : Int) < (l.length : Int) := by omega
        have h0j : (0 : Int) ≤ (j : Int) := by omega
        generalize hx : l[j] = x at hrd h0 h1 h2
        have X := Aside0.mk hx
        clear hx hrd hij hcl
        go_upto_region 8 with (first | ((with_reducible refine gate_dst (N := 7) rfl ?_); refine box_event ?hg (N := 7) ?hd (cs := #[.int .i64 0, .int .i64 0, .int .i64 0]) (t := 30) ?hr ?_; (case hd => rfl); (case hg => rfl); (case hr => first | (go_simp; done) | (go_simp; rfl)); intro gy hgy w1 hbox hb; have GY := Aside0.mk ((by rw [hgy]; exact below_size HW.out : wr.heap.size ≤ gy)); clear hgy; have n_HW := Aside0.mk (below_step HW.out hb); have n_BK := Aside0.mk (hbox); clear HW; have HW := n_HW; clear n_HW; have BK := n_BK; clear n_BK; (try clear qBK0); have qBK0 : World.cell? _ ⟨gy, 0, none⟩ = some (.int .i64 0) := (blk_cell BK.out 0).trans rfl; (try clear zBK0); have zBK0 : World.frozen? _ ⟨gy, 0, none⟩ = false := blk_frozen BK.out 0; (try clear qBK1); have qBK1 : World.cell? _ ⟨gy, 1, none⟩ = some (.int .i64 0) := (blk_cell BK.out 1).trans rfl; (try clear zBK1); have zBK1 : World.frozen? _ ⟨gy, 1, none⟩ = false := blk_frozen BK.out 1; (try clear qBK2); have qBK2 : World.cell? _ ⟨gy, 2, none⟩ = some (.int .i64 0) := (blk_cell BK.out 2).trans rfl; (try clear zBK2); have zBK2 : World.frozen? _ ⟨gy, 2, none⟩ = false := blk_frozen BK.out 2; clear hbox hb; (try clear hg)))
        have HV := Aside0.mk (below_set (j := 2) (v := .int .i64 x.f2) (below_set (j := 1) (v := .int .i64 x.f1) (below_set (j := 0) (v := .int .i64 x.f0) HW.out GY.out) GY.out) GY.out)
        have BV : Aside0 (((World.setCell (World.setCell (World.setCell w1 ⟨gy, 0, none⟩ (.int .i64 x.f0)) ⟨gy, 1, none⟩ (.int .i64 x.f1)) ⟨gy, 2, none⟩ (.int .i64 x.f2))).heap[gy]? = some (.cells #[.int .i64 x.f0, .int .i64 x.f1, .int .i64 x.f2] 30 (0, 0))) := ⟨by refine blk_put (cs := #[.int .i64 x.f0, .int .i64 x.f1, .int .i64 0]) ?_ 2 _ rfl; refine blk_put (cs := #[.int .i64 x.f0, .int .i64 0, .int .i64 0]) ?_ 1 _ rfl; refine blk_put (cs := #[.int .i64 0, .int .i64 0, .int .i64 0]) ?_ 0 _ rfl; exact BK.out⟩
        clear HW BK h0 h1 h2 qBK0 qBK1 qBK2 zBK0 zBK1 zBK2
        generalize (World.setCell (World.setCell (World.setCell w1 ⟨gy, 0, none⟩ (.int .i64 x.f0)) ⟨gy, 1, none⟩ (.int .i64 x.f1)) ⟨gy, 2, none⟩ (.int .i64 x.f2)) = wv at HV BV ⊢
        have HBv := Aside0.mk (below_then HB.out HB.out.size HV.out)
        have hcall := mine_clo base g P rs os x wv (HS.out.below HBv.out) ((HBv.out.cell (World.block_lt_of_cell? _ _ HP.out)).trans HP.out)
        have q0 : World.cell? wv ⟨gy, 0, none⟩ = some (.int .i64 x.f0) := (blk_cell BV.out 0).trans rfl; have q1 : World.cell? wv ⟨gy, 1, none⟩ = some (.int .i64 x.f1) := (blk_cell BV.out 1).trans rfl; have q2 : World.cell? wv ⟨gy, 2, none⟩ = some (.int .i64 x.f2) := (blk_cell BV.out 2).trans rfl
        cases hq : (has33 os x.f0).2 with
        | true =>
          rw [hq] at hcall
          go_wp2_with (go_at_call 32; refine hcall.mono ?_; rintro e w' ⟨rfl, hb'⟩)
          go_roundg (l.length - (j + 1))
          case measure => have := HLT.out; omega
          case rel => exact ⟨i, j + 1, cur, by have := HIJ.out; omega, by have := HLT.out; omega, by omega, rfl, by go_num, HCL.out, ⟨step_true HT.out HLT.out (by rw [X.out]; simp [hq])⟩, ⟨step_drop HD.out⟩, ⟨Kd.R_below (Kd.R_below HR.out HV.out) hb'⟩, ⟨below_then HBv.out HBv.out.size hb'⟩⟩
        | false =>
          rw [hq] at hcall
          go_upto_region 9 with (go_at_call 32; refine hcall.mono ?_; rintro e w' ⟨rfl, hb'⟩; have n1 := Aside0.mk (blk_below BV.out hb'); have n2 := Aside0.mk (Kd.R_below (Kd.R_below HR.out HV.out) hb'); have n3 := Aside0.mk (below_then HBv.out HBv.out.size hb'); clear BV HR HB q0 q1 q2; have BV := n1; have HR := n2; have HB := n3; clear n1 n2 n3 hb')
          have q0 : World.cell? w' ⟨gy, 0, none⟩ = some (.int .i64 x.f0) := (blk_cell BV.out 0).trans rfl; have q1 : World.cell? w' ⟨gy, 1, none⟩ = some (.int .i64 x.f1) := (blk_cell BV.out 1).trans rfl; have q2 : World.cell? w' ⟨gy, 2, none⟩ = some (.int .i64 x.f2) := (blk_cell BV.out 2).trans rfl
          have HIL := Aside0.mk (show i < cur.length by have := HIJ.out; have := HLT.out; have := HCL.out; omega)
          obtain ⟨u0, y0⟩ := cell30 HR.out (i * 3) (by have := HIL.out; omega)
          obtain ⟨u1, y1⟩ := cell30 HR.out (i * 3 + 1) (by have := HIL.out; omega)
          obtain ⟨u2, y2⟩ := cell30 HR.out (i * 3 + 2) (by have := HIL.out; omega)
          have z0 := frozen30 HR.out (i * 3)
          have z1 := frozen30 HR.out (i * 3 + 1)
          have z2 := frozen30 HR.out (i * 3 + 2)
          obtain ⟨s1, s2⟩ := store30 HR.out x HIL.out
          have S1 := Aside0.mk s1
          have S2 := Aside0.mk s2
          clear s1 s2
          go_upto_region 10 with (fail)
          clear q0 q1 q2 y0 y1 y2 z0 z1 z2
          go_wp2
          go_roundg (l.length - (j + 1))
          case measure => have := HLT.out; omega
          case rel => exact ⟨i + 1, j + 1, cur.set i x, by have := HIJ.out; omega, by have := HLT.out; omega, by omega, by go_num, by go_num, by rw [List.length_set]; exact HCL.out, ⟨X.out ▸ step_false HT.out HLT.out HIJ.out HCL.out (by rw [X.out]; simp [hq])⟩, ⟨step_drop_set HD.out HIJ.out _⟩, S1, ⟨below_row HR.out HB.out HB.out.size S2.out⟩⟩
      · have hltz : ¬ (j : Int) < (l.length : Int) := by omega
        have HLT := Aside0.mk hlt
        have f1 : ¬ c = i := by have := HLC.out; omega
        have f2 : (0 : Int) ≤ (i : Int) := by omega
        have f3 : (i : Int) ≤ (l.length : Int) := by omega
        have f4 : i ≤ l.length := by omega
        have f5 : i + (l.length - i) ≤ c := by have := HLC.out; omega
        have f6 : i ≤ c := by omega
        have HRT := Aside0.mk (Kd.R_take HR.out (m := i) (by omega))
        clear hij hjl hgg hcl hlt
        go_wp2_with (((with_reducible refine gate_builtin (b := .clear) (xs := #[.tmp 38]) rfl ?_); obtain ⟨w6, hrun, hr6, hg6⟩ := clear30 (n := i) (m := l.length - i) (c := c - i) 0 HRT.out f5; refine Kd.event_run rfl (exec_clear rfl rfl hrun) ?_))
        go_ret
        refine ⟨_, rfl, ?_, below_row HRT.out HB.out HB.out.size hg6⟩
        have ht := HT.out
        rw [List.take_of_length_le (i := j) (by have := HLT.out; omega)] at ht
        rw [← ht]
        exact hr6

end Go.Proofs.Ytfiniikeoemleaa.R
