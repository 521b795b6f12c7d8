/- The walk of ReadsUnclaimed: true for every input. Conditions: the rows, and bytes. Printed by wip/dev/gen12n.py. -/
import Derived.Test.YtfiniikeoemleaaRArr
import Derived.Test.YtfiniikeoemleaaRAlive
import Derived.Deep.CutBlock
import Derived.Deep.CutRange
import Derived.BigQuiet
namespace Go.Proofs.Ytfiniikeoemleaa.R
open Go Go.RowKit Go.Proofs.YtfiniikeoemleaaW.PrintWords Go.Proofs.YtfiniikeoemleaaW.PrintLast Go.Proofs.YtfiniikeoemleaaW.PrintMore
attribute [local go_sem] max2_int min2_int max_two min_two max_three min_three max_four min_four
set_option linter.unusedVariables false
set_option linter.unusedSimpArgs false

set_option maxHeartbeats 8000000 in
set_option maxRecDepth 100000 in
theorem unclaimedLaw_calls (A0 : Option Addr) (c0 : Nat) (l0 : List Int) (A1 : Option Addr) (c1 : Nat) (l1 : List Int) (a2 : Int) (w : World) (hr0 : Kd.C (Kd.int .u8) w A0 l0.length l0) (hc0 : l0.length ≤ c0) (hr1 : Kd.C (Kd.int .u8) w A1 l1.length l1) (hc1 : l1.length ≤ c1)
    (hu0 : ∀ x ∈ l0, 0 ≤ x ∧ x < 256) (hu1 : ∀ x ∈ l1, 0 ≤ x ∧ x < 256) (hu2 : 0 ≤ a2 ∧ a2 < 256) :
    Calls Try.prog 3 #[.slice A0 l0.length c0, .slice A1 l1.length c1, .int .u8 a2] w fun e w' => e = .returned (.bool true) ∧ Below w.heap.size w w' := by
  have hmax0 : l0.length ≤ 9223372036854775807 := Kd.C_max hr0
  have hmax1 : l1.length ≤ 9223372036854775807 := Kd.C_max hr1
  have HR0 := Aside0.mk hr0
  have HR1 := Aside0.mk hr1
  have HU0 := Aside0.mk hu0
  have HU1 := Aside0.mk hu1
  have HU2 := Aside0.mk hu2
  have HB := Aside0.mk (Below.refl w.heap.size w)
  have hu30 := Try.underlying30
  have hu33 := Try.underlying33
  clear hr0 hc0 hr1 hc1 hu0 hu1 hu2
  by_cases hl : l0.length ≤ 100
  rotate_left
  · have hl1 : (100 : Int) < (l0.length : Int) := by omega
    go_enter Try.func3, Try.ntmps3
    go_wp2_with (first | (go_at_call 7; refine (alive_calls _).mono ?_; rintro e w1 ⟨rfl, hb⟩; have n2 := Aside0.mk (below_step HB.out hb); clear HB hb; have HB := n2; clear n2))
    go_ret
    exact ⟨rfl, HB.out⟩
  have hl1 : ¬ (100 : Int) < (l0.length : Int) := by omega
  have HL0 := Aside0.mk hl
  clear hl
  by_cases hl : l1.length ≤ 100
  rotate_left
  · have hl2 : (100 : Int) < (l1.length : Int) := by omega
    go_enter Try.func3, Try.ntmps3
    go_wp2_with (first | (go_at_call 7; refine (alive_calls _).mono ?_; rintro e w1 ⟨rfl, hb⟩; have n2 := Aside0.mk (below_step HB.out hb); clear HB hb; have HB := n2; clear n2))
    go_ret
    exact ⟨rfl, HB.out⟩
  have hl2 : ¬ (100 : Int) < (l1.length : Int) := by omega
  have HL1 := Aside0.mk hl
  clear hl
  go_enter Try.func3, Try.ntmps3
  go_wp2_with (first | (go_at_call 7; refine (alive_calls _).mono ?_; rintro e w1 ⟨rfl, hb⟩; have n2 := Aside0.mk (below_step HB.out hb); clear HB hb; have HB := n2; clear n2) | (go_at_call 8; refine (new_calls _).mono ?_; rintro e w2 ⟨g, rfl, hs, hb⟩; have HS := Aside0.mk (hs.lower (below_size HB.out)); have n2 := Aside0.mk (below_step HB.out hb); clear HB hs hb; have HB := n2; clear n2) | ((with_reducible refine gate_dst (N := 8) rfl ?_); refine box_event ?hg (N := 8) ?hd (cs := arrB (fun _ => false)) (t := 26) ?hr ?_; (case hd => rfl); (case hg => rfl); (case hr => kernel_rfl); intro gh hgx w3 hbox hb; have GBH := Aside0.mk (show w.heap.size ≤ gh by rw [hgx]; exact below_size HB.out); clear hgx; have BH := Aside0.mk hbox; have n_HS := Aside0.mk (HS.out.below hb); have n_HB := Aside0.mk (below_step HB.out hb); clear HS HB; have HS := n_HS; clear n_HS; have HB := n_HB; clear n_HB; clear hbox hb) | ((with_reducible refine gate_dst (N := 9) rfl ?_); refine box_event ?hg (N := 9) ?hd (cs := arrB (fun _ => false)) (t := 26) ?hr ?_; (case hd => rfl); (case hg => rfl); (case hr => kernel_rfl); intro gm hgx w4 hbox hb; have GBM := Aside0.mk (show w.heap.size ≤ gm by rw [hgx]; exact below_size HB.out); have NE := Aside0.mk (show gm ≠ gh by have := blk_lt BH.out; omega); clear hgx; have BM := Aside0.mk hbox; have n_HS := Aside0.mk (HS.out.below hb); have n_HB := Aside0.mk (below_step HB.out hb); have n_BH := Aside0.mk (blk_below BH.out hb); clear HS HB BH; have HS := n_HS; clear n_HS; have HB := n_HB; clear n_HB; have BH := n_BH; clear n_BH; clear hbox hb))
  clear hl1 hl2
  go_loopg [10, 11, 12] l0.length (fun gg s10 s11 _ wr => ∃ (i : Nat) (rs : List S30) (h : Int → Bool), i ≤ l0.length ∧ l0.length - i ≤ gg ∧ s10 = .int .i64 rs.length ∧ s11 = .int .i64 i ∧ Aside0 (InvA i rs h) ∧ Aside0 (IsR w.heap.size wr g rs []) ∧ Aside0 (Below w.heap.size w wr) ∧ Aside0 (wr.heap[gh]? = some (.cells (arrB h) 26 (0, 0))) ∧ Aside0 (wr.heap[gm]? = some (.cells (arrB (fun _ => false)) 26 (0, 0))))
  case atStart => exact ⟨0, [], fun _ => false, Nat.zero_le _, by omega, rfl, rfl, ⟨InvA.start⟩, HS, HB, BH, BM⟩
  case round =>
    clear HS HB BH BM
    obtain ⟨i, rs, h, hil, hgg, rfl, rfl, IA, HS, HB, BH, BM⟩ := hrel
    by_cases hlt : i < l0.length
    rotate_left
    · have hltz : ¬ (i : Int) < (l0.length : Int) := by omega
      have HIL := Aside0.mk hil
      clear hil hgg hlt
      have RL := Aside0.mk (show rs.length ≤ 100 by have := IA.out.len; have := HL0.out; have := HIL.out; omega)
      go_wp2
      clear hltz
      go_loopg [13] l1.length (fun gg s13 wr => ∃ (j : Nat) (os : List S33) (m : Int → Bool), j ≤ l1.length ∧ l1.length - j ≤ gg ∧ s13 = .int .i64 j ∧ Aside0 (InvP j os m) ∧ Aside0 (IsR w.heap.size wr g rs os) ∧ Aside0 (Below w.heap.size w wr) ∧ Aside0 (wr.heap[gh]? = some (.cells (arrB h) 26 (0, 0))) ∧ Aside0 (wr.heap[gm]? = some (.cells (arrB m) 26 (0, 0))))
      case atStart => exact ⟨0, [], fun _ => false, Nat.zero_le _, by omega, rfl, ⟨InvP.start⟩, HS, HB, BH, BM⟩
      case round =>
        clear HS HB BH BM
        obtain ⟨j, os, m, hjl, hgg, rfl, IP, HS, HB, BH, BM⟩ := hrel
        by_cases hlt : j < l1.length
        rotate_left
        · have hltz : ¬ (j : Int) < (l1.length : Int) := by omega
          clear hjl hgg hlt
          go_upto_region 24 with (fail)
          obtain ⟨hx0, hx1⟩ := HU2.out
          have LE := Aside0.mk (show rs.length ≤ 1000 by have := RL.out; omega)
          have hb := below_drew (Below.refl wr.heap.size wr)
          have n_HS := Aside0.mk (HS.out.below hb); have n_HB := Aside0.mk (below_step HB.out hb); have n_BH := Aside0.mk (blk_below BH.out hb); have n_BM := Aside0.mk (blk_below BM.out hb); clear HS HB BH BM; have HS := n_HS; clear n_HS; have HB := n_HB; clear n_HB; have BH := n_BH; clear n_BH; have BM := n_BM; clear n_BM
          clear hb hltz
          have hwz : RowKit.wrap64 a2 = a2 := by unfold RowKit.wrap64; omega
          cases hd : h a2 with
          | true =>
            obtain ⟨f0, f1, f2⟩ := IA.out.hit a2 hd
            refine start_ (n := 8) (S := fun w' => w'.heap[gh]? = some (.cells (arrB h) 26 (0, 0))) (ds := []) #[false, false, false, false, false, false, false, false] (by kernel_rfl) rfl rfl (BH.out) (fun hHeld => ?_)
            generalize World.drew _ = wR at HS HB BH BM hHeld ⊢
            refine pure_ (i := 0) (N := (some 83)) (v := ?_) (a' := ?_) #[true, false, false, false, false, false, false, false] rfl rfl (by kernel_rfl) (fun _ _ _ h => h) (Or.inl ⟨by rfl, ?_⟩) ?_ ?_
            rotate_left
            · intro w'
              go_simp
              with_reducible rfl
            rotate_left
            · (try simp only [Act.put, List.setIfInBounds_toArray, List.set_cons_zero, List.set_cons_succ, i64_w, i32_w])
              rfl
            refine pure_ (i := 1) (N := (some 84)) (v := ?_) (a' := ?_) #[true, true, false, false, false, false, false, false] rfl rfl (by kernel_rfl) (fun _ _ _ h => h) (Or.inl ⟨by rfl, ?_⟩) ?_ ?_
            rotate_left
            · intro w'
              go_simp
              with_reducible rfl
            rotate_left
            · (try simp only [Act.put, List.setIfInBounds_toArray, List.set_cons_zero, List.set_cons_succ, i64_w, i32_w])
              rfl
            refine pure_ (i := 2) (N := (some 85)) (v := ?_) (a' := ?_) #[true, true, true, false, false, false, false, false] rfl rfl (by kernel_rfl) (fun _ _ _ h => h) (Or.inl ⟨by rfl, ?_⟩) ?_ ?_
            rotate_left
            · intro w'
              go_simp
              with_reducible rfl
            rotate_left
            · (try simp only [Act.put, List.setIfInBounds_toArray, List.set_cons_zero, List.set_cons_succ, i64_w, i32_w])
              rfl
            simp only [hwz]
            refine pure_ (i := 4) (N := (some 87)) (v := ?_) (a' := ?_) #[true, true, true, false, true, false, false, false] rfl rfl (by kernel_rfl) (fun _ _ _ h => h) (Or.inl ⟨by rfl, ?_⟩) ?_ ?_
            rotate_left
            · intro w'
              go_simp
              with_reducible rfl
            rotate_left
            · (try simp only [Act.put, List.setIfInBounds_toArray, List.set_cons_zero, List.set_cons_succ, i64_w, i32_w])
              rfl
            refine pure_ (i := 5) (N := (some 88)) (v := ?_) (a' := ?_) #[true, true, true, false, true, true, false, false] rfl rfl (by kernel_rfl) (fun _ _ _ h => h) (Or.inl ⟨by rfl, ?_⟩) ?_ ?_
            rotate_left
            · intro w'
              go_simp
              with_reducible rfl
            rotate_left
            · (try simp only [Act.put, List.setIfInBounds_toArray, List.set_cons_zero, List.set_cons_succ, i64_w, i32_w])
              rfl
            refine take_ (i := 6) (N := some 89) (v := ?_) (a' := ?_) #[true, true, true, false, true, true, true, false] rfl rfl (by kernel_rfl) (fun _ _ _ h => h) (Or.inl ⟨by rfl, ?_⟩) hHeld ?_ ?_
            rotate_left
            · intro w' s0
              have q := arr_cell s0 a2 hx0 hx1
              rw [hd] at q
              go_simp
              with_reducible rfl
            rotate_left
            · (try simp only [Act.put, List.setIfInBounds_toArray, List.set_cons_zero, List.set_cons_succ, i64_w, i32_w])
              rfl
            refine one_ (i := 3) (N := (some 86)) #[true, true, true, true, true, true, true, false] rfl rfl (by kernel_rfl) (by decide) (fun K hK => ?_)
            refine goes_ Try.func11 (by kernel_rfl) rfl #[.pointer (some ⟨g, 0, none⟩), .int .i64 a2] (by rfl) rfl rfl (by (try simp only [List.map_toArray, List.map_cons, List.map_nil]); first | done | rfl | (simp only [List.length_drop, List.length_take]; rfl)) ?_
            refine (drop_allF _ g rs os a2 _ HS.out (below_size HB.out) LE.out).mono ?_
            rintro e w6 ⟨he, hs, hf, hb⟩; rw [if_neg f0] at he; subst he; refine ⟨_, rfl, ?_⟩
            have n_HS := Aside0.mk (hs); have n_HB := Aside0.mk (HB.out.trans hb); have n_BH := Aside0.mk (hf.blk BH.out (by decide)); have n_BM := Aside0.mk (hf.blk BM.out (by decide)); clear HS HB BH BM; have HS := n_HS; clear n_HS; have HB := n_HB; clear n_HB; have BH := n_BH; clear n_BH; have BM := n_BM; clear n_BM
            clear hs hf hb hHeld; have hHeld := BH.out
            refine hK.out _ _ hHeld (fun _ => ?_)
            clear hK K
            refine norm_ (a' := ?_) ?_ ?_
            rotate_left
            · show Act.put _ (some 86) _ = _
              (try simp only [Act.put, List.setIfInBounds_toArray, List.set_cons_zero, List.set_cons_succ, i64_w, i32_w])
              rfl
            refine pure_ (i := 7) (N := (some 90)) (v := ?_) (a' := ?_) #[true, true, true, true, true, true, true, true] rfl rfl (by kernel_rfl) (fun _ _ _ h => h) (Or.inl ⟨by rfl, ?_⟩) ?_ ?_
            rotate_left
            · intro w'
              go_simp
              with_reducible rfl
            rotate_left
            · (try simp only [Act.put, List.setIfInBounds_toArray, List.set_cons_zero, List.set_cons_succ, i64_w, i32_w])
              rfl
            refine done_ (by kernel_rfl) ?_
            have q := arr_cell BH.out a2 hx0 hx1
            rw [hd] at q
            have za := blk_frozen BH.out a2.toNat
            have hn0 : (0 : Int) ≤ (rs.length : Int) := by omega
            have hn1 : (rs.length : Int) ≤ 1000 := by have := LE.out; omega
            clear hd hHeld
            go_upto_region 29 with (fail)
            clear q za hn0 hn1
            have hb := below_set (j := a2.toNat) (v := .bool false) HB.out GBH.out
            have hh := arr_set BH.out a2 false hx0 hx1
            have hf' := Fr.set (ts := [26]) (Fr.refl _ _) (p := ⟨gh, a2.toNat, none⟩) BH.out (by simp) (.bool false)
            have hm := blk_far BM.out (p := ⟨gh, a2.toNat, none⟩) NE.out (.bool false)
            have n_HS := Aside0.mk (HS.out.fr hf' (by decide) (by decide) (by decide)); have n_HB := Aside0.mk (hb); have n_BH := Aside0.mk (hh); have n_BM := Aside0.mk (hm); clear HS HB BH BM; have HS := n_HS; clear n_HS; have HB := n_HB; clear n_HB; have BH := n_BH; clear n_BH; have BM := n_BM; clear n_BM
            clear hb hh hf' hm
            have hn : (rs.length : Int) - 1 = ((dropR rs a2).length : Int) := by omega
            rw [hn]
            generalize World.setCell w6 ⟨gh, a2.toNat, none⟩ (.bool false) = w7 at HS HB BH BM ⊢
            have ID := Aside0.mk f2
            have L3 := Aside0.mk (show (dropR rs a2).length ≤ 100 by have := RL.out; omega)
            clear f0 f1 f2 hn hx0 hx1 hwz
            generalize dropR rs a2 = rs3 at HS ID L3 ⊢
            generalize updB h a2 false = h3 at BH ID
            have L31 := Aside0.mk (show rs3.length ≤ 1000 by have := L3.out; omega)
            go_upto_region 30 with (first | ((with_reducible refine gate_callee (f := 12) rfl ?_); refine goesL_ (some 99) rfl rfl Try.func12 (by kernel_rfl) rfl #[.pointer (some ⟨g, 0, none⟩)] rfl (by (try simp only [List.map_toArray, List.map_cons, List.map_nil]); first | done | rfl | (simp only [List.length_drop, List.length_take]; rfl)) ?_; (refine (readings_calls _ g rs3 os _ HS.out L31.out).mono ?_); rintro e w8 ⟨v8, rfl, hv, hb⟩; refine ⟨_, rfl, ?_⟩; (obtain ⟨A8, c8, ee⟩ := Kd.R_slice hv; subst ee); have HRl := Aside0.mk (Kd.R_lower hv (below_size HB.out)); have n_HS := Aside0.mk (HS.out.below hb); have n_HB := Aside0.mk (below_step HB.out hb); have n_BH := Aside0.mk (blk_below BH.out hb); have n_BM := Aside0.mk (blk_below BM.out hb); clear HS HB BH BM; have HS := n_HS; clear n_HS; have HB := n_HB; clear n_HB; have BH := n_BH; clear n_BH; have BM := n_BM; clear n_BM; clear hv hb) | ((with_reducible refine gate_callee (f := 13) rfl ?_); refine goesL_ (some 101) rfl rfl Try.func13 (by kernel_rfl) rfl #[.pointer (some ⟨g, 0, none⟩)] rfl (by (try simp only [List.map_toArray, List.map_cons, List.map_nil]); first | done | rfl | (simp only [List.length_drop, List.length_take]; rfl)) ?_; (refine (unclaimed_calls _ g rs3 os _ HS.out L31.out).mono ?_); rintro e w9 ⟨v9, rfl, hv, hb⟩; refine ⟨_, rfl, ?_⟩; have hp := fun x : S30 => IP.out.has x.f0; simp only [hp] at hv; clear hp; (obtain ⟨A9, c9, ee⟩ := Kd.R_slice hv; subst ee); have HRu := Aside0.mk (Kd.R_lower hv (below_size HB.out)); have n_HS := Aside0.mk (HS.out.below hb); have n_HB := Aside0.mk (below_step HB.out hb); have n_BH := Aside0.mk (blk_below BH.out hb); have n_BM := Aside0.mk (blk_below BM.out hb); have n_HRl := Aside0.mk (Kd.R_below HRl.out hb); clear HS HB BH BM HRl; have HS := n_HS; clear n_HS; have HB := n_HB; clear n_HB; have BH := n_BH; clear n_BH; have BM := n_BM; clear n_BM; have HRl := n_HRl; clear n_HRl; clear hv hb))
            generalize eu : rs3.filter (fun x => !m x.f0) = us at HRu ⊢
            have EU := Aside0.mk eu
            have LU := Aside0.mk (show us.length ≤ rs3.length by rw [← eu]; exact List.length_filter_le _ _)
            clear eu HS
            go_wp2
            go_loopg [16, 17] rs3.length (fun gg s16 s17 wr => ∃ q : Nat, q ≤ rs3.length ∧ rs3.length - q ≤ gg ∧ s16 = .int .i64 ((rs3.take q).filter (fun x => !m x.f0)).length ∧ s17 = .int .i64 q ∧ Aside0 (Below w.heap.size w wr) ∧ Aside0 (wr.heap[gh]? = some (.cells (arrB h3) 26 (0, 0))) ∧ Aside0 (wr.heap[gm]? = some (.cells (arrB m) 26 (0, 0))) ∧ Aside0 (Kd.R k30 30 wr w.heap.size (fun _ => True) (.slice A8 rs3.length c8) rs3) ∧ Aside0 (Kd.R k30 30 wr w.heap.size (fun _ => True) (.slice A9 us.length c9) us))
            case atStart => exact ⟨0, Nat.zero_le _, by omega, rfl, rfl, HB, BH, BM, HRl, HRu⟩
            case round =>
              clear HB BH BM HRl HRu
              obtain ⟨q, hql, hgg, rfl, rfl, HB, BH, BM, HRl, HRu⟩ := hrel
              by_cases hlt : q < rs3.length
              rotate_left
              · have hltz : ¬ (q : Int) < (rs3.length : Int) := by omega
                have hq : q = rs3.length := by omega
                subst hq
                have e1 : ((rs3.take rs3.length).filter (fun x => !m x.f0)).length = us.length := by rw [List.take_length, EU.out]
                rw [e1]
                clear hql hgg hlt hltz e1
                go_wp2
                go_ret
                exact ⟨rfl, HB.out⟩
              · have hltz : (q : Int) < (rs3.length : Int) := by omega
                have h0i : (0 : Int) ≤ (q : Int) := by omega
                have HLT := Aside0.mk hlt
                have HGG := Aside0.mk hgg
                have hrd : rd_T30 rs3 (q : Int) = rs3[q]'(HLT.out) := by simp [rd_T30, hlt]
                obtain ⟨hx0, hx1⟩ := ID.out.rng _ (List.getElem_mem HLT.out)
                have hhx := ID.out.has _ (List.getElem_mem HLT.out)
                have FY := fun hp => filt_yes (p := fun x : S30 => !m x.f0) HLT.out hp
                have FN := fun hp => filt_no (p := fun x : S30 => !m x.f0) HLT.out hp
                have LT := fun h0 => ID.out.less (i := q) h0 HLT.out
                generalize ey : rs3[q]'(HLT.out) = y at hrd hx0 hx1 hhx FY FN LT
                generalize ((rs3.take q).filter (fun x => !m x.f0)).length = k at FY FN ⊢
                have EY := Aside0.mk ey
                have FY' := Aside0.mk FY
                have FN' := Aside0.mk FN
                have LT' := Aside0.mk LT
                have HRD := Aside0.mk hrd
                clear ey FY FN LT hrd hql hgg
                obtain ⟨ad_, ea, h0, h1, h2⟩ := at_T30 (Kd.R_reads' HRl.out).2.2 (q : Int) (by omega) (by omega)
                cases ea
                rw [HRD.out] at h0 h1 h2
                simp only [Int.toNat_natCast] at h0 h1 h2
                have cm := arr_cell BH.out y.f0 hx0 hx1
                rw [hhx] at cm
                have c1 : decide (y.f0 < 0) = false := decide_eq_false (by omega)
                have c2 : decide ((255 : Int) < y.f0) = false := decide_eq_false (by omega)
                by_cases hq0 : 0 < q
                · have hq1 : q - 1 < rs3.length := by omega
                  have hrd' : rd_T30 rs3 ((q : Int) - 1) = rs3[q - 1]'hq1 := by simp [rd_T30, show ((q : Int) - 1).toNat = q - 1 by omega, hq1]
                  have hlz := LT'.out hq0
                  obtain ⟨ad_, ea, i0, i1, i2⟩ := at_T30 (Kd.R_reads' HRl.out).2.2 ((q : Int) - 1) (by omega) (by omega)
                  cases ea
                  rw [hrd'] at i0 i1 i2
                  rw [show ((q : Int) - 1).toNat = q - 1 by omega] at i0 i1 i2
                  generalize rs3[q - 1]'hq1 = z at hlz i0 i1 i2
                  have c3 : decide ((0 : Int) < (q : Int)) = true := decide_eq_true (by omega)
                  have c4 : decide (y.f1 ≤ z.f1) = false := decide_eq_false (by omega)
                  have b3 : (q : Int) ≤ 1000 := by have := L31.out; omega
                  have b1 : (0 : Int) ≤ (q : Int) - 1 := by omega
                  have b2 : (q : Int) - 1 < (rs3.length : Int) := by omega
                  have c3n : decide (0 < q) = true := decide_eq_true hq0
                  have c4n : (y.f1 ≤ z.f1) = False := eq_false (by omega)
                  clear hrd' hlz hq1 hhx
                  go_upto_region 34 with (fail)
                  go_quiet (fail)
                  clear i0 i1 i2 c3 c3n hq0 c4 c4n b1 b2 b3 c1 c2 cm h0 h1 h2
                  have hb := pw_below_drewN (Below.refl wr.heap.size wr) nq
                  have n_HB := Aside0.mk (below_step HB.out hb); have n_BH := Aside0.mk (blk_below BH.out hb); have n_BM := Aside0.mk (blk_below BM.out hb); have n_HRl := Aside0.mk (Kd.R_below HRl.out hb); have n_HRu := Aside0.mk (Kd.R_below HRu.out hb); clear HB BH BM HRl HRu; have HB := n_HB; clear n_HB; have BH := n_BH; clear n_BH; have BM := n_BM; clear n_BM; have HRl := n_HRl; clear n_HRl; have HRu := n_HRu; clear n_HRu
                  clear hb
                  generalize wr.drewN nq = wy at HB BH BM HRl HRu ⊢
                  obtain ⟨ad_, ea, h0, h1, h2⟩ := at_T30 (Kd.R_reads' HRl.out).2.2 (q : Int) (by omega) (by omega)
                  cases ea
                  rw [HRD.out] at h0 h1 h2
                  simp only [Int.toNat_natCast] at h0 h1 h2
                  have cm := arr_cell BM.out y.f0 hx0 hx1
                  cases hm : m y.f0 with
                  | true =>
                    rw [hm] at cm
                    go_wp2
                    go_roundg (rs3.length - (q + 1))
                    case measure => have := HLT.out; have := HGG.out; omega
                    case rel => exact ⟨q + 1, HLT.out, Nat.le_refl _, by rw [FN'.out (by simp [hm])], by have := L31.out; have := HLT.out; refine congrArg _ ?_; unfold wrap64; omega, HB, BH, BM, HRl, HRu⟩
                  | false =>
                    rw [hm] at cm
                    obtain ⟨e1, hk, e2⟩ := FY'.out (by simp [hm])
                    have E1 := Aside0.mk e1
                    simp only [EU.out] at hk e2
                    have hku : (k : Int) < (us.length : Int) := by omega
                    have h0k : (0 : Int) ≤ (k : Int) := by omega
                    have hkn : decide ((us.length : Int) ≤ (k : Int)) = false := decide_eq_false (by omega)
                    have hkm : decide (us.length ≤ k) = false := decide_eq_false (by omega)
                    have hru : rd_T30 us (k : Int) = y := by simp [rd_T30, hk, e2]
                    have HKL := Aside0.mk (show k ≤ 1000 by have := LU.out; have := L31.out; omega)
                    clear e1 e2
                    go_upto_region 37 with (fail)
                    clear cm h0 h1 h2
                    obtain ⟨ad_, ea, i0, i1, i2⟩ := at_T30 (Kd.R_reads' HRu.out).2.2 (k : Int) (by omega) (by omega)
                    cases ea
                    rw [hru] at i0 i1 i2
                    simp only [Int.toNat_natCast] at i0 i1 i2
                    obtain ⟨ad_, ea, h0, h1, h2⟩ := at_T30 (Kd.R_reads' HRl.out).2.2 (q : Int) (by omega) (by omega)
                    cases ea
                    rw [HRD.out] at h0 h1 h2
                    simp only [Int.toNat_natCast] at h0 h1 h2
                    clear hru
                    go_quiet (fail)
                    go_wp2
                    clear h0 h1 h2 i0 i1 i2
                    have hb := pw_below_drewN (Below.refl wy.heap.size wy) nq
                    have n_HB := Aside0.mk (below_step HB.out hb); have n_BH := Aside0.mk (blk_below BH.out hb); have n_BM := Aside0.mk (blk_below BM.out hb); have n_HRl := Aside0.mk (Kd.R_below HRl.out hb); have n_HRu := Aside0.mk (Kd.R_below HRu.out hb); clear HB BH BM HRl HRu; have HB := n_HB; clear n_HB; have BH := n_BH; clear n_BH; have BM := n_BM; clear n_BM; have HRl := n_HRl; clear n_HRl; have HRu := n_HRu; clear n_HRu
                    clear hb
                    generalize wy.drewN nq = wz at HB BH BM HRl HRu ⊢
                    go_roundg (rs3.length - (q + 1))
                    case measure => have := HLT.out; have := HGG.out; omega
                    case rel => exact ⟨q + 1, HLT.out, Nat.le_refl _, by rw [E1.out]; have := HKL.out; refine congrArg _ ?_; unfold wrap64; omega, by have := L31.out; have := HLT.out; refine congrArg _ ?_; unfold wrap64; omega, HB, BH, BM, HRl, HRu⟩
                · have c3 : decide ((0 : Int) < (q : Int)) = false := decide_eq_false (by omega)
                  have c3n : decide (0 < q) = false := decide_eq_false hq0
                  clear hhx
                  go_upto_region 34 with (fail)
                  go_quiet (fail)
                  clear c3 c3n hq0 c1 c2 cm h0 h1 h2
                  have hb := pw_below_drewN (Below.refl wr.heap.size wr) nq
                  have n_HB := Aside0.mk (below_step HB.out hb); have n_BH := Aside0.mk (blk_below BH.out hb); have n_BM := Aside0.mk (blk_below BM.out hb); have n_HRl := Aside0.mk (Kd.R_below HRl.out hb); have n_HRu := Aside0.mk (Kd.R_below HRu.out hb); clear HB BH BM HRl HRu; have HB := n_HB; clear n_HB; have BH := n_BH; clear n_BH; have BM := n_BM; clear n_BM; have HRl := n_HRl; clear n_HRl; have HRu := n_HRu; clear n_HRu
                  clear hb
                  generalize wr.drewN nq = wy at HB BH BM HRl HRu ⊢
                  obtain ⟨ad_, ea, h0, h1, h2⟩ := at_T30 (Kd.R_reads' HRl.out).2.2 (q : Int) (by omega) (by omega)
                  cases ea
                  rw [HRD.out] at h0 h1 h2
                  simp only [Int.toNat_natCast] at h0 h1 h2
                  have cm := arr_cell BM.out y.f0 hx0 hx1
                  cases hm : m y.f0 with
                  | true =>
                    rw [hm] at cm
                    go_wp2
                    go_roundg (rs3.length - (q + 1))
                    case measure => have := HLT.out; have := HGG.out; omega
                    case rel => exact ⟨q + 1, HLT.out, Nat.le_refl _, by rw [FN'.out (by simp [hm])], by have := L31.out; have := HLT.out; refine congrArg _ ?_; unfold wrap64; omega, HB, BH, BM, HRl, HRu⟩
                  | false =>
                    rw [hm] at cm
                    obtain ⟨e1, hk, e2⟩ := FY'.out (by simp [hm])
                    have E1 := Aside0.mk e1
                    simp only [EU.out] at hk e2
                    have hku : (k : Int) < (us.length : Int) := by omega
                    have h0k : (0 : Int) ≤ (k : Int) := by omega
                    have hkn : decide ((us.length : Int) ≤ (k : Int)) = false := decide_eq_false (by omega)
                    have hkm : decide (us.length ≤ k) = false := decide_eq_false (by omega)
                    have hru : rd_T30 us (k : Int) = y := by simp [rd_T30, hk, e2]
                    have HKL := Aside0.mk (show k ≤ 1000 by have := LU.out; have := L31.out; omega)
                    clear e1 e2
                    go_upto_region 37 with (fail)
                    clear cm h0 h1 h2
                    obtain ⟨ad_, ea, i0, i1, i2⟩ := at_T30 (Kd.R_reads' HRu.out).2.2 (k : Int) (by omega) (by omega)
                    cases ea
                    rw [hru] at i0 i1 i2
                    simp only [Int.toNat_natCast] at i0 i1 i2
                    obtain ⟨ad_, ea, h0, h1, h2⟩ := at_T30 (Kd.R_reads' HRl.out).2.2 (q : Int) (by omega) (by omega)
                    cases ea
                    rw [HRD.out] at h0 h1 h2
                    simp only [Int.toNat_natCast] at h0 h1 h2
                    clear hru
                    go_quiet (fail)
                    go_wp2
                    clear h0 h1 h2 i0 i1 i2
                    have hb := pw_below_drewN (Below.refl wy.heap.size wy) nq
                    have n_HB := Aside0.mk (below_step HB.out hb); have n_BH := Aside0.mk (blk_below BH.out hb); have n_BM := Aside0.mk (blk_below BM.out hb); have n_HRl := Aside0.mk (Kd.R_below HRl.out hb); have n_HRu := Aside0.mk (Kd.R_below HRu.out hb); clear HB BH BM HRl HRu; have HB := n_HB; clear n_HB; have BH := n_BH; clear n_BH; have BM := n_BM; clear n_BM; have HRl := n_HRl; clear n_HRl; have HRu := n_HRu; clear n_HRu
                    clear hb
                    generalize wy.drewN nq = wz at HB BH BM HRl HRu ⊢
                    go_roundg (rs3.length - (q + 1))
                    case measure => have := HLT.out; have := HGG.out; omega
                    case rel => exact ⟨q + 1, HLT.out, Nat.le_refl _, by rw [E1.out]; have := HKL.out; refine congrArg _ ?_; unfold wrap64; omega, by have := L31.out; have := HLT.out; refine congrArg _ ?_; unfold wrap64; omega, HB, BH, BM, HRl, HRu⟩
          | false =>
            obtain ⟨f0, f1, f2⟩ := IA.out.miss a2 hd
            refine start_ (n := 8) (S := fun w' => w'.heap[gh]? = some (.cells (arrB h) 26 (0, 0))) (ds := []) #[false, false, false, false, false, false, false, false] (by kernel_rfl) rfl rfl (BH.out) (fun hHeld => ?_)
            generalize World.drew _ = wR at HS HB BH BM hHeld ⊢
            refine pure_ (i := 0) (N := (some 83)) (v := ?_) (a' := ?_) #[true, false, false, false, false, false, false, false] rfl rfl (by kernel_rfl) (fun _ _ _ h => h) (Or.inl ⟨by rfl, ?_⟩) ?_ ?_
            rotate_left
            · intro w'
              go_simp
              with_reducible rfl
            rotate_left
            · (try simp only [Act.put, List.setIfInBounds_toArray, List.set_cons_zero, List.set_cons_succ, i64_w, i32_w])
              rfl
            refine pure_ (i := 1) (N := (some 84)) (v := ?_) (a' := ?_) #[true, true, false, false, false, false, false, false] rfl rfl (by kernel_rfl) (fun _ _ _ h => h) (Or.inl ⟨by rfl, ?_⟩) ?_ ?_
            rotate_left
            · intro w'
              go_simp
              with_reducible rfl
            rotate_left
            · (try simp only [Act.put, List.setIfInBounds_toArray, List.set_cons_zero, List.set_cons_succ, i64_w, i32_w])
              rfl
            refine pure_ (i := 2) (N := (some 85)) (v := ?_) (a' := ?_) #[true, true, true, false, false, false, false, false] rfl rfl (by kernel_rfl) (fun _ _ _ h => h) (Or.inl ⟨by rfl, ?_⟩) ?_ ?_
            rotate_left
            · intro w'
              go_simp
              with_reducible rfl
            rotate_left
            · (try simp only [Act.put, List.setIfInBounds_toArray, List.set_cons_zero, List.set_cons_succ, i64_w, i32_w])
              rfl
            simp only [hwz]
            refine pure_ (i := 4) (N := (some 87)) (v := ?_) (a' := ?_) #[true, true, true, false, true, false, false, false] rfl rfl (by kernel_rfl) (fun _ _ _ h => h) (Or.inl ⟨by rfl, ?_⟩) ?_ ?_
            rotate_left
            · intro w'
              go_simp
              with_reducible rfl
            rotate_left
            · (try simp only [Act.put, List.setIfInBounds_toArray, List.set_cons_zero, List.set_cons_succ, i64_w, i32_w])
              rfl
            refine pure_ (i := 5) (N := (some 88)) (v := ?_) (a' := ?_) #[true, true, true, false, true, true, false, false] rfl rfl (by kernel_rfl) (fun _ _ _ h => h) (Or.inl ⟨by rfl, ?_⟩) ?_ ?_
            rotate_left
            · intro w'
              go_simp
              with_reducible rfl
            rotate_left
            · (try simp only [Act.put, List.setIfInBounds_toArray, List.set_cons_zero, List.set_cons_succ, i64_w, i32_w])
              rfl
            refine take_ (i := 6) (N := some 89) (v := ?_) (a' := ?_) #[true, true, true, false, true, true, true, false] rfl rfl (by kernel_rfl) (fun _ _ _ h => h) (Or.inl ⟨by rfl, ?_⟩) hHeld ?_ ?_
            rotate_left
            · intro w' s0
              have q := arr_cell s0 a2 hx0 hx1
              rw [hd] at q
              go_simp
              with_reducible rfl
            rotate_left
            · (try simp only [Act.put, List.setIfInBounds_toArray, List.set_cons_zero, List.set_cons_succ, i64_w, i32_w])
              rfl
            refine one_ (i := 3) (N := (some 86)) #[true, true, true, true, true, true, true, false] rfl rfl (by kernel_rfl) (by decide) (fun K hK => ?_)
            refine goes_ Try.func11 (by kernel_rfl) rfl #[.pointer (some ⟨g, 0, none⟩), .int .i64 a2] (by rfl) rfl rfl (by (try simp only [List.map_toArray, List.map_cons, List.map_nil]); first | done | rfl | (simp only [List.length_drop, List.length_take]; rfl)) ?_
            refine (drop_allF _ g rs os a2 _ HS.out (below_size HB.out) LE.out).mono ?_
            rintro e w6 ⟨he, hs, hf, hb⟩; rw [if_pos f0] at he; subst he; refine ⟨_, rfl, ?_⟩
            have n_HS := Aside0.mk (hs); have n_HB := Aside0.mk (HB.out.trans hb); have n_BH := Aside0.mk (hf.blk BH.out (by decide)); have n_BM := Aside0.mk (hf.blk BM.out (by decide)); clear HS HB BH BM; have HS := n_HS; clear n_HS; have HB := n_HB; clear n_HB; have BH := n_BH; clear n_BH; have BM := n_BM; clear n_BM
            clear hs hf hb hHeld; have hHeld := BH.out
            refine hK.out _ _ hHeld (fun _ => ?_)
            clear hK K
            refine norm_ (a' := ?_) ?_ ?_
            rotate_left
            · show Act.put _ (some 86) _ = _
              (try simp only [Act.put, List.setIfInBounds_toArray, List.set_cons_zero, List.set_cons_succ, i64_w, i32_w])
              rfl
            refine pure_ (i := 7) (N := (some 90)) (v := ?_) (a' := ?_) #[true, true, true, true, true, true, true, true] rfl rfl (by kernel_rfl) (fun _ _ _ h => h) (Or.inl ⟨by rfl, ?_⟩) ?_ ?_
            rotate_left
            · intro w'
              go_simp
              with_reducible rfl
            rotate_left
            · (try simp only [Act.put, List.setIfInBounds_toArray, List.set_cons_zero, List.set_cons_succ, i64_w, i32_w])
              rfl
            refine done_ (by kernel_rfl) ?_
            have q := arr_cell BH.out a2 hx0 hx1
            rw [hd] at q
            have za := blk_frozen BH.out a2.toNat
            have hn0 : (0 : Int) ≤ (rs.length : Int) := by omega
            have hn1 : (rs.length : Int) ≤ 1000 := by have := LE.out; omega
            clear hd hHeld
            go_upto_region 29 with (fail)
            clear q za hn0 hn1
            rw [f1] at HS
            have ID := Aside0.mk f2
            have L3 := Aside0.mk (show rs.length ≤ 100 from RL.out)
            clear f0 f1 f2 hx0 hx1 hwz IA RL LE HIL
            generalize rs = rs3 at HS ID L3 ⊢
            generalize h = h3 at BH ID
            have L31 := Aside0.mk (show rs3.length ≤ 1000 by have := L3.out; omega)
            go_upto_region 30 with (first | ((with_reducible refine gate_callee (f := 12) rfl ?_); refine goesL_ (some 99) rfl rfl Try.func12 (by kernel_rfl) rfl #[.pointer (some ⟨g, 0, none⟩)] rfl (by (try simp only [List.map_toArray, List.map_cons, List.map_nil]); first | done | rfl | (simp only [List.length_drop, List.length_take]; rfl)) ?_; (refine (readings_calls _ g rs3 os _ HS.out L31.out).mono ?_); rintro e w8 ⟨v8, rfl, hv, hb⟩; refine ⟨_, rfl, ?_⟩; (obtain ⟨A8, c8, ee⟩ := Kd.R_slice hv; subst ee); have HRl := Aside0.mk (Kd.R_lower hv (below_size HB.out)); have n_HS := Aside0.mk (HS.out.below hb); have n_HB := Aside0.mk (below_step HB.out hb); have n_BH := Aside0.mk (blk_below BH.out hb); have n_BM := Aside0.mk (blk_below BM.out hb); clear HS HB BH BM; have HS := n_HS; clear n_HS; have HB := n_HB; clear n_HB; have BH := n_BH; clear n_BH; have BM := n_BM; clear n_BM; clear hv hb) | ((with_reducible refine gate_callee (f := 13) rfl ?_); refine goesL_ (some 101) rfl rfl Try.func13 (by kernel_rfl) rfl #[.pointer (some ⟨g, 0, none⟩)] rfl (by (try simp only [List.map_toArray, List.map_cons, List.map_nil]); first | done | rfl | (simp only [List.length_drop, List.length_take]; rfl)) ?_; (refine (unclaimed_calls _ g rs3 os _ HS.out L31.out).mono ?_); rintro e w9 ⟨v9, rfl, hv, hb⟩; refine ⟨_, rfl, ?_⟩; have hp := fun x : S30 => IP.out.has x.f0; simp only [hp] at hv; clear hp; (obtain ⟨A9, c9, ee⟩ := Kd.R_slice hv; subst ee); have HRu := Aside0.mk (Kd.R_lower hv (below_size HB.out)); have n_HS := Aside0.mk (HS.out.below hb); have n_HB := Aside0.mk (below_step HB.out hb); have n_BH := Aside0.mk (blk_below BH.out hb); have n_BM := Aside0.mk (blk_below BM.out hb); have n_HRl := Aside0.mk (Kd.R_below HRl.out hb); clear HS HB BH BM HRl; have HS := n_HS; clear n_HS; have HB := n_HB; clear n_HB; have BH := n_BH; clear n_BH; have BM := n_BM; clear n_BM; have HRl := n_HRl; clear n_HRl; clear hv hb))
            generalize eu : rs3.filter (fun x => !m x.f0) = us at HRu ⊢
            have EU := Aside0.mk eu
            have LU := Aside0.mk (show us.length ≤ rs3.length by rw [← eu]; exact List.length_filter_le _ _)
            clear eu HS
            go_wp2
            go_loopg [16, 17] rs3.length (fun gg s16 s17 wr => ∃ q : Nat, q ≤ rs3.length ∧ rs3.length - q ≤ gg ∧ s16 = .int .i64 ((rs3.take q).filter (fun x => !m x.f0)).length ∧ s17 = .int .i64 q ∧ Aside0 (Below w.heap.size w wr) ∧ Aside0 (wr.heap[gh]? = some (.cells (arrB h3) 26 (0, 0))) ∧ Aside0 (wr.heap[gm]? = some (.cells (arrB m) 26 (0, 0))) ∧ Aside0 (Kd.R k30 30 wr w.heap.size (fun _ => True) (.slice A8 rs3.length c8) rs3) ∧ Aside0 (Kd.R k30 30 wr w.heap.size (fun _ => True) (.slice A9 us.length c9) us))
            case atStart => exact ⟨0, Nat.zero_le _, by omega, rfl, rfl, HB, BH, BM, HRl, HRu⟩
            case round =>
              clear HB BH BM HRl HRu
              obtain ⟨q, hql, hgg, rfl, rfl, HB, BH, BM, HRl, HRu⟩ := hrel
              by_cases hlt : q < rs3.length
              rotate_left
              · have hltz : ¬ (q : Int) < (rs3.length : Int) := by omega
                have hq : q = rs3.length := by omega
                subst hq
                have e1 : ((rs3.take rs3.length).filter (fun x => !m x.f0)).length = us.length := by rw [List.take_length, EU.out]
                rw [e1]
                clear hql hgg hlt hltz e1
                go_wp2
                go_ret
                exact ⟨rfl, HB.out⟩
              · have hltz : (q : Int) < (rs3.length : Int) := by omega
                have h0i : (0 : Int) ≤ (q : Int) := by omega
                have HLT := Aside0.mk hlt
                have HGG := Aside0.mk hgg
                have hrd : rd_T30 rs3 (q : Int) = rs3[q]'(HLT.out) := by simp [rd_T30, hlt]
                obtain ⟨hx0, hx1⟩ := ID.out.rng _ (List.getElem_mem HLT.out)
                have hhx := ID.out.has _ (List.getElem_mem HLT.out)
                have FY := fun hp => filt_yes (p := fun x : S30 => !m x.f0) HLT.out hp
                have FN := fun hp => filt_no (p := fun x : S30 => !m x.f0) HLT.out hp
                have LT := fun h0 => ID.out.less (i := q) h0 HLT.out
                generalize ey : rs3[q]'(HLT.out) = y at hrd hx0 hx1 hhx FY FN LT
                generalize ((rs3.take q).filter (fun x => !m x.f0)).length = k at FY FN ⊢
                have EY := Aside0.mk ey
                have FY' := Aside0.mk FY
                have FN' := Aside0.mk FN
                have LT' := Aside0.mk LT
                have HRD := Aside0.mk hrd
                clear ey FY FN LT hrd hql hgg
                obtain ⟨ad_, ea, h0, h1, h2⟩ := at_T30 (Kd.R_reads' HRl.out).2.2 (q : Int) (by omega) (by omega)
                cases ea
                rw [HRD.out] at h0 h1 h2
                simp only [Int.toNat_natCast] at h0 h1 h2
                have cm := arr_cell BH.out y.f0 hx0 hx1
                rw [hhx] at cm
                have c1 : decide (y.f0 < 0) = false := decide_eq_false (by omega)
                have c2 : decide ((255 : Int) < y.f0) = false := decide_eq_false (by omega)
                by_cases hq0 : 0 < q
                · have hq1 : q - 1 < rs3.length := by omega
                  have hrd' : rd_T30 rs3 ((q : Int) - 1) = rs3[q - 1]'hq1 := by simp [rd_T30, show ((q : Int) - 1).toNat = q - 1 by omega, hq1]
                  have hlz := LT'.out hq0
                  obtain ⟨ad_, ea, i0, i1, i2⟩ := at_T30 (Kd.R_reads' HRl.out).2.2 ((q : Int) - 1) (by omega) (by omega)
                  cases ea
                  rw [hrd'] at i0 i1 i2
                  rw [show ((q : Int) - 1).toNat = q - 1 by omega] at i0 i1 i2
                  generalize rs3[q - 1]'hq1 = z at hlz i0 i1 i2
                  have c3 : decide ((0 : Int) < (q : Int)) = true := decide_eq_true (by omega)
                  have c4 : decide (y.f1 ≤ z.f1) = false := decide_eq_false (by omega)
                  have b3 : (q : Int) ≤ 1000 := by have := L31.out; omega
                  have b1 : (0 : Int) ≤ (q : Int) - 1 := by omega
                  have b2 : (q : Int) - 1 < (rs3.length : Int) := by omega
                  have c3n : decide (0 < q) = true := decide_eq_true hq0
                  have c4n : (y.f1 ≤ z.f1) = False := eq_false (by omega)
                  clear hrd' hlz hq1 hhx
                  go_upto_region 34 with (fail)
                  go_quiet (fail)
                  clear i0 i1 i2 c3 c3n hq0 c4 c4n b1 b2 b3 c1 c2 cm h0 h1 h2
                  have hb := pw_below_drewN (Below.refl wr.heap.size wr) nq
                  have n_HB := Aside0.mk (below_step HB.out hb); have n_BH := Aside0.mk (blk_below BH.out hb); have n_BM := Aside0.mk (blk_below BM.out hb); have n_HRl := Aside0.mk (Kd.R_below HRl.out hb); have n_HRu := Aside0.mk (Kd.R_below HRu.out hb); clear HB BH BM HRl HRu; have HB := n_HB; clear n_HB; have BH := n_BH; clear n_BH; have BM := n_BM; clear n_BM; have HRl := n_HRl; clear n_HRl; have HRu := n_HRu; clear n_HRu
                  clear hb
                  generalize wr.drewN nq = wy at HB BH BM HRl HRu ⊢
                  obtain ⟨ad_, ea, h0, h1, h2⟩ := at_T30 (Kd.R_reads' HRl.out).2.2 (q : Int) (by omega) (by omega)
                  cases ea
                  rw [HRD.out] at h0 h1 h2
                  simp only [Int.toNat_natCast] at h0 h1 h2
                  have cm := arr_cell BM.out y.f0 hx0 hx1
                  cases hm : m y.f0 with
                  | true =>
                    rw [hm] at cm
                    go_wp2
                    go_roundg (rs3.length - (q + 1))
                    case measure => have := HLT.out; have := HGG.out; omega
                    case rel => exact ⟨q + 1, HLT.out, Nat.le_refl _, by rw [FN'.out (by simp [hm])], by have := L31.out; have := HLT.out; refine congrArg _ ?_; unfold wrap64; omega, HB, BH, BM, HRl, HRu⟩
                  | false =>
                    rw [hm] at cm
                    obtain ⟨e1, hk, e2⟩ := FY'.out (by simp [hm])
                    have E1 := Aside0.mk e1
                    simp only [EU.out] at hk e2
                    have hku : (k : Int) < (us.length : Int) := by omega
                    have h0k : (0 : Int) ≤ (k : Int) := by omega
                    have hkn : decide ((us.length : Int) ≤ (k : Int)) = false := decide_eq_false (by omega)
                    have hkm : decide (us.length ≤ k) = false := decide_eq_false (by omega)
                    have hru : rd_T30 us (k : Int) = y := by simp [rd_T30, hk, e2]
                    have HKL := Aside0.mk (show k ≤ 1000 by have := LU.out; have := L31.out; omega)
                    clear e1 e2
                    go_upto_region 37 with (fail)
                    clear cm h0 h1 h2
                    obtain ⟨ad_, ea, i0, i1, i2⟩ := at_T30 (Kd.R_reads' HRu.out).2.2 (k : Int) (by omega) (by omega)
                    cases ea
                    rw [hru] at i0 i1 i2
                    simp only [Int.toNat_natCast] at i0 i1 i2
                    obtain ⟨ad_, ea, h0, h1, h2⟩ := at_T30 (Kd.R_reads' HRl.out).2.2 (q : Int) (by omega) (by omega)
                    cases ea
                    rw [HRD.out] at h0 h1 h2
                    simp only [Int.toNat_natCast] at h0 h1 h2
                    clear hru
                    go_quiet (fail)
                    go_wp2
                    clear h0 h1 h2 i0 i1 i2
                    have hb := pw_below_drewN (Below.refl wy.heap.size wy) nq
                    have n_HB := Aside0.mk (below_step HB.out hb); have n_BH := Aside0.mk (blk_below BH.out hb); have n_BM := Aside0.mk (blk_below BM.out hb); have n_HRl := Aside0.mk (Kd.R_below HRl.out hb); have n_HRu := Aside0.mk (Kd.R_below HRu.out hb); clear HB BH BM HRl HRu; have HB := n_HB; clear n_HB; have BH := n_BH; clear n_BH; have BM := n_BM; clear n_BM; have HRl := n_HRl; clear n_HRl; have HRu := n_HRu; clear n_HRu
                    clear hb
                    generalize wy.drewN nq = wz at HB BH BM HRl HRu ⊢
                    go_roundg (rs3.length - (q + 1))
                    case measure => have := HLT.out; have := HGG.out; omega
                    case rel => exact ⟨q + 1, HLT.out, Nat.le_refl _, by rw [E1.out]; have := HKL.out; refine congrArg _ ?_; unfold wrap64; omega, by have := L31.out; have := HLT.out; refine congrArg _ ?_; unfold wrap64; omega, HB, BH, BM, HRl, HRu⟩
                · have c3 : decide ((0 : Int) < (q : Int)) = false := decide_eq_false (by omega)
                  have c3n : decide (0 < q) = false := decide_eq_false hq0
                  clear hhx
                  go_upto_region 34 with (fail)
                  go_quiet (fail)
                  clear c3 c3n hq0 c1 c2 cm h0 h1 h2
                  have hb := pw_below_drewN (Below.refl wr.heap.size wr) nq
                  have n_HB := Aside0.mk (below_step HB.out hb); have n_BH := Aside0.mk (blk_below BH.out hb); have n_BM := Aside0.mk (blk_below BM.out hb); have n_HRl := Aside0.mk (Kd.R_below HRl.out hb); have n_HRu := Aside0.mk (Kd.R_below HRu.out hb); clear HB BH BM HRl HRu; have HB := n_HB; clear n_HB; have BH := n_BH; clear n_BH; have BM := n_BM; clear n_BM; have HRl := n_HRl; clear n_HRl; have HRu := n_HRu; clear n_HRu
                  clear hb
                  generalize wr.drewN nq = wy at HB BH BM HRl HRu ⊢
                  obtain ⟨ad_, ea, h0, h1, h2⟩ := at_T30 (Kd.R_reads' HRl.out).2.2 (q : Int) (by omega) (by omega)
                  cases ea
                  rw [HRD.out] at h0 h1 h2
                  simp only [Int.toNat_natCast] at h0 h1 h2
                  have cm := arr_cell BM.out y.f0 hx0 hx1
                  cases hm : m y.f0 with
                  | true =>
                    rw [hm] at cm
                    go_wp2
                    go_roundg (rs3.length - (q + 1))
                    case measure => have := HLT.out; have := HGG.out; omega
                    case rel => exact ⟨q + 1, HLT.out, Nat.le_refl _, by rw [FN'.out (by simp [hm])], by have := L31.out; have := HLT.out; refine congrArg _ ?_; unfold wrap64; omega, HB, BH, BM, HRl, HRu⟩
                  | false =>
                    rw [hm] at cm
                    obtain ⟨e1, hk, e2⟩ := FY'.out (by simp [hm])
                    have E1 := Aside0.mk e1
                    simp only [EU.out] at hk e2
                    have hku : (k : Int) < (us.length : Int) := by omega
                    have h0k : (0 : Int) ≤ (k : Int) := by omega
                    have hkn : decide ((us.length : Int) ≤ (k : Int)) = false := decide_eq_false (by omega)
                    have hkm : decide (us.length ≤ k) = false := decide_eq_false (by omega)
                    have hru : rd_T30 us (k : Int) = y := by simp [rd_T30, hk, e2]
                    have HKL := Aside0.mk (show k ≤ 1000 by have := LU.out; have := L31.out; omega)
                    clear e1 e2
                    go_upto_region 37 with (fail)
                    clear cm h0 h1 h2
                    obtain ⟨ad_, ea, i0, i1, i2⟩ := at_T30 (Kd.R_reads' HRu.out).2.2 (k : Int) (by omega) (by omega)
                    cases ea
                    rw [hru] at i0 i1 i2
                    simp only [Int.toNat_natCast] at i0 i1 i2
                    obtain ⟨ad_, ea, h0, h1, h2⟩ := at_T30 (Kd.R_reads' HRl.out).2.2 (q : Int) (by omega) (by omega)
                    cases ea
                    rw [HRD.out] at h0 h1 h2
                    simp only [Int.toNat_natCast] at h0 h1 h2
                    clear hru
                    go_quiet (fail)
                    go_wp2
                    clear h0 h1 h2 i0 i1 i2
                    have hb := pw_below_drewN (Below.refl wy.heap.size wy) nq
                    have n_HB := Aside0.mk (below_step HB.out hb); have n_BH := Aside0.mk (blk_below BH.out hb); have n_BM := Aside0.mk (blk_below BM.out hb); have n_HRl := Aside0.mk (Kd.R_below HRl.out hb); have n_HRu := Aside0.mk (Kd.R_below HRu.out hb); clear HB BH BM HRl HRu; have HB := n_HB; clear n_HB; have BH := n_BH; clear n_BH; have BM := n_BM; clear n_BM; have HRl := n_HRl; clear n_HRl; have HRu := n_HRu; clear n_HRu
                    clear hb
                    generalize wy.drewN nq = wz at HB BH BM HRl HRu ⊢
                    go_roundg (rs3.length - (q + 1))
                    case measure => have := HLT.out; have := HGG.out; omega
                    case rel => exact ⟨q + 1, HLT.out, Nat.le_refl _, by rw [E1.out]; have := HKL.out; refine congrArg _ ?_; unfold wrap64; omega, by have := L31.out; have := HLT.out; refine congrArg _ ?_; unfold wrap64; omega, HB, BH, BM, HRl, HRu⟩
        · have hltz : (j : Int) < (l1.length : Int) := by omega
          have h0i : (0 : Int) ≤ (j : Int) := by omega
          have HLT := Aside0.mk hlt
          have HGG := Aside0.mk hgg
          obtain ⟨ad_, ea, h0⟩ := Kd.at_int (Kd.C_below HR1.out HB.out) (j : Int) (by omega) (by omega)
          cases ea
          simp only [Int.toNat_natCast] at h0
          obtain ⟨hx0, hx1⟩ := rd_byte HU1.out j hlt
          generalize ex : rd l1 (j : Int) = x at h0 hx0 hx1
          have EX := Aside0.mk ex
          clear ex
          have HX := Aside0.mk (show 0 ≤ x ∧ x < 256 from ⟨hx0, hx1⟩)
          have LE := Aside0.mk (show os.length ≤ 1000 by have := IP.out.len; have := HLT.out; have := HL1.out; omega)
          clear hjl hgg hlt
          go_upto_region 23 with (first | (go_at_call 10; refine (put_allF _ g rs os ⟨x, 0, 0, 0, false⟩ _ HS.out (below_size HB.out) LE.out).mono ?_; rintro e w5 ⟨he, hs, hf, hb⟩; subst he; clear h0; have n_HS := Aside0.mk (hs); have n_HB := Aside0.mk (HB.out.trans hb); have n_BH := Aside0.mk (hf.blk BH.out (by decide)); have n_BM := Aside0.mk (hf.blk BM.out (by decide)); clear HS HB BH BM; have HS := n_HS; clear n_HS; have HB := n_HB; clear n_HB; have BH := n_BH; clear n_BH; have BM := n_BM; clear n_BM; clear hs hf hb))
          obtain ⟨ad_, ea, h0⟩ := Kd.at_int (Kd.C_below HR1.out HB.out) (j : Int) (by omega) (by omega)
          cases ea
          simp only [EX.out, Int.toNat_natCast] at h0
          have za := blk_frozen BM.out x.toNat
          have ca := arr_cell BM.out x hx0 hx1
          go_wp2
          have hb := below_set (j := x.toNat) (v := .bool true) HB.out GBM.out
          have hm := arr_set BM.out x true hx0 hx1
          have hf := Fr.set (ts := [26]) (Fr.refl _ _) (p := ⟨gm, x.toNat, none⟩) BM.out (by simp) (.bool true)
          have hh := blk_far BH.out (p := ⟨gm, x.toNat, none⟩) (Ne.symm NE.out) (.bool true)
          clear ca za h0
          go_roundg (l1.length - (j + 1))
          case measure => have := HLT.out; have := HGG.out; omega
          case rel => exact ⟨j + 1, putR os ⟨x, 0, 0, 0, false⟩, updB m x true, HLT.out, Nat.le_refl _, by go_num, ⟨IP.out.step x 0 0 0 false⟩, ⟨HS.out.fr hf (by decide) (by decide) (by decide)⟩, ⟨hb⟩, ⟨hh⟩, ⟨hm⟩⟩
    · have hltz : (i : Int) < (l0.length : Int) := by omega
      have h0i : (0 : Int) ≤ (i : Int) := by omega
      have HLT := Aside0.mk hlt
      have HGG := Aside0.mk hgg
      obtain ⟨ad_, ea, h0⟩ := Kd.at_int (Kd.C_below HR0.out HB.out) (i : Int) (by omega) (by omega)
      cases ea
      simp only [Int.toNat_natCast] at h0
      obtain ⟨hx0, hx1⟩ := rd_byte HU0.out i hlt
      generalize ex : rd l0 (i : Int) = x at h0 hx0 hx1
      have EX := Aside0.mk ex
      clear ex
      have HX := Aside0.mk (show 0 ≤ x ∧ x < 256 from ⟨hx0, hx1⟩)
      have FD := Aside0.mk (IA.out.find x)
      have LE := Aside0.mk (show rs.length ≤ 1000 by have := IA.out.len; have := HLT.out; have := HL0.out; omega)
      clear hil hgg hlt
      cases hh : h x with
      | true =>
        have FA : find30 rs x ≠ -1 := (by have := FD.out; rw [hh] at this; intro e; simp [e] at this)
        have AD := Aside0.mk FA
        clear FA
        go_upto_region 14 with (first | (go_at_call 9; refine (add_allF _ g rs [] ⟨x, i, 0⟩ _ HS.out (below_size HB.out) LE.out).mono ?_; rintro e w5 ⟨he, hs, hf, hb⟩; rw [if_neg (by have := FD.out; rw [hh] at this; intro e; simp [e] at this)] at he; subst he; clear h0; have n_HS := Aside0.mk (hs); have n_HB := Aside0.mk (HB.out.trans hb); have n_BH := Aside0.mk (hf.blk BH.out (by decide)); have n_BM := Aside0.mk (hf.blk BM.out (by decide)); clear HS HB BH BM; have HS := n_HS; clear n_HS; have HB := n_HB; clear n_HB; have BH := n_BH; clear n_BH; have BM := n_BM; clear n_BM; clear hs hf hb))
        obtain ⟨ad_, ea, h0⟩ := Kd.at_int (Kd.C_below HR0.out HB.out) (i : Int) (by omega) (by omega)
        cases ea
        simp only [EX.out, Int.toNat_natCast] at h0
        have ca := arr_cell BH.out x hx0 hx1
        rw [hh] at ca
        have za := blk_frozen BH.out x.toNat
        clear hh
        have hn0 : (0 : Int) ≤ (rs.length : Int) := by omega
        have hn1 : (rs.length : Int) ≤ 1000 := by have := LE.out; omega
        go_wp2
        have hb := below_set (j := x.toNat) (v := .bool true) HB.out GBH.out
        have hh := arr_set BH.out x true hx0 hx1
        have hf := Fr.set (ts := [26]) (Fr.refl _ _) (p := ⟨gh, x.toNat, none⟩) BH.out (by simp) (.bool true)
        have hm := blk_far BM.out (p := ⟨gh, x.toNat, none⟩) NE.out (.bool true)
        clear ca za h0
        go_roundg (l0.length - (i + 1))
        case measure => have := HLT.out; have := HGG.out; omega
        case rel => exact ⟨i + 1, addR rs ⟨x, i, 0⟩, updB h x true, HLT.out, Nat.le_refl _, by unfold addR; have := AD.out; rw [if_neg this], by go_num, ⟨IA.out.step x HX.out.1 HX.out.2⟩, ⟨HS.out.fr hf (by decide) (by decide) (by decide)⟩, ⟨hb⟩, ⟨hh⟩, ⟨hm⟩⟩
      | false =>
        have FA : find30 rs x = -1 := (by have := FD.out; rw [hh] at this; simpa using this.symm)
        have AD := Aside0.mk FA
        clear FA
        go_upto_region 14 with (first | (go_at_call 9; refine (add_allF _ g rs [] ⟨x, i, 0⟩ _ HS.out (below_size HB.out) LE.out).mono ?_; rintro e w5 ⟨he, hs, hf, hb⟩; rw [if_pos (by have := FD.out; rw [hh] at this; simpa using this.symm)] at he; subst he; clear h0; have n_HS := Aside0.mk (hs); have n_HB := Aside0.mk (HB.out.trans hb); have n_BH := Aside0.mk (hf.blk BH.out (by decide)); have n_BM := Aside0.mk (hf.blk BM.out (by decide)); clear HS HB BH BM; have HS := n_HS; clear n_HS; have HB := n_HB; clear n_HB; have BH := n_BH; clear n_BH; have BM := n_BM; clear n_BM; clear hs hf hb))
        obtain ⟨ad_, ea, h0⟩ := Kd.at_int (Kd.C_below HR0.out HB.out) (i : Int) (by omega) (by omega)
        cases ea
        simp only [EX.out, Int.toNat_natCast] at h0
        have ca := arr_cell BH.out x hx0 hx1
        rw [hh] at ca
        have za := blk_frozen BH.out x.toNat
        clear hh
        have hn0 : (0 : Int) ≤ (rs.length : Int) := by omega
        have hn1 : (rs.length : Int) ≤ 1000 := by have := LE.out; omega
        go_wp2
        have hb := below_set (j := x.toNat) (v := .bool true) HB.out GBH.out
        have hh := arr_set BH.out x true hx0 hx1
        have hf := Fr.set (ts := [26]) (Fr.refl _ _) (p := ⟨gh, x.toNat, none⟩) BH.out (by simp) (.bool true)
        have hm := blk_far BM.out (p := ⟨gh, x.toNat, none⟩) NE.out (.bool true)
        clear ca za h0
        go_roundg (l0.length - (i + 1))
        case measure => have := HLT.out; have := HGG.out; omega
        case rel => exact ⟨i + 1, addR rs ⟨x, i, 0⟩, updB h x true, HLT.out, Nat.le_refl _, by unfold addR; have := AD.out; rw [if_pos this]; simp, by go_num, ⟨IA.out.step x HX.out.1 HX.out.2⟩, ⟨HS.out.fr hf (by decide) (by decide) (by decide)⟩, ⟨hb⟩, ⟨hh⟩, ⟨hm⟩⟩

end Go.Proofs.Ytfiniikeoemleaa.R
