/- The document's set: Drop, Put, Unclaimed. Conditions: the state, and that the rows are short. Printed by wip/dev/gen12p.py. -/
import Derived.Test.YtfiniikeoemleaaDSet
import Derived.Test.YtfiniikeoemleaaRSwap
import Derived.WalkSpells
import Derived.BigRegion
import Derived.ChangeAlike
namespace Go.Proofs.Ytfiniikeoemleaa.R
open Go Go.RowKit Go.Proofs.YtfiniikeoemleaaW.PrintWords Go.Proofs.YtfiniikeoemleaaW.PrintLast Go.Proofs.YtfiniikeoemleaaW.PrintMore
attribute [local go_sem] max2_int min2_int max_two min_two max_three min_three max_four min_four
set_option linter.unusedVariables false
set_option linter.unusedSimpArgs false

theorem filt44_one (p : S44 → Bool) {l : List S44} {i : Nat} (hi : i < l.length) : (l.take (i + 1)).filter p = (l.take i).filter p ++ [l[i]].filter p := by
  rw [List.take_succ_eq_append_getElem hi, List.filter_append]

set_option maxHeartbeats 8000000 in
set_option maxRecDepth 100000 in
theorem ddrop_calls (base g : Nat) (rs : List S44) (os : List S45) (o : Int) (w : World) (h : IsD base w g rs os) (hbase : base ≤ w.heap.size) (hl : rs.length ≤ 1000) :
    Calls Try.prog 15 #[.pointer (some ⟨g, 0, none⟩), .int .i64 o] w fun e w' => e = .returned (.tuple #[]) ∧ IsD base w' g (rs.filter (fun x => !(x.f0 == o))) os ∧ Fr [43] w w' ∧ Below base w w' := by
  obtain ⟨vr, vo, hg0, hge, hr, ho⟩ := h
  obtain ⟨Ar, cr, er⟩ := Kd.R_slice hr
  obtain ⟨Ao, co, eo⟩ := Kd.R_slice ho
  subst er eo
  have BS := Aside0.mk hg0
  have HRr := Aside0.mk hr
  have HRo := Aside0.mk ho
  have GE := Aside0.mk hge
  have HB := Aside0.mk (Below.refl w.heap.size w)
  have hmr : rs.length ≤ 9223372036854775807 := Kd.C_max (Kd.R_reads' hr).2.2
  have hmo : os.length ≤ 9223372036854775807 := Kd.C_max (Kd.R_reads' ho).2.2
  have hu44 := Try.underlying44
  have hu45 := Try.underlying45
  have hu43 := Try.underlying43
  clear hg0 hge hr ho
  have HL := Aside0.mk hl
  have HBASE := Aside0.mk hbase
  clear hl hbase
  go_enter Try.func15, Try.ntmps15
  go_wp2
  go_loopg [4, 5] rs.length (fun gg s4 s5 wr => ∃ (kk : Nat) (A1 : Option Addr) (c1 : Nat) (out : List S44), kk ≤ rs.length ∧ rs.length - kk ≤ gg ∧ s4 = .slice A1 out.length c1 ∧ s5 = .int .i64 kk ∧ Aside0 (out = (rs.take kk).filter (fun x => !(x.f0 == o))) ∧ Aside0 (Kd.R k44 44 wr w.heap.size (fun _ => True) (.slice A1 out.length c1) out) ∧ Aside0 (Below w.heap.size w wr))
  case atStart => exact ⟨0, none, 0, [], Nat.zero_le _, by omega, rfl, rfl, ⟨by simp⟩, ⟨Kd.R_nil _ _ _ _ _⟩, HB⟩
  case round =>
    clear HB
    obtain ⟨kk, A1, c1, out, hkk, hgg, rfl, rfl, OUT, HO, HB⟩ := hrel
    have qBS0 : World.cell? wr ⟨g, 0, none⟩ = some (.slice Ar rs.length cr) := (blk_cell (blk_below BS.out HB.out) 0).trans rfl
    have qBS1 : World.cell? wr ⟨g, 1, none⟩ = some (.slice Ao os.length co) := (blk_cell (blk_below BS.out HB.out) 1).trans rfl
    have zBS0 : World.frozen? wr ⟨g, 0, none⟩ = false := blk_frozen (blk_below BS.out HB.out) 0
    have zBS1 : World.frozen? wr ⟨g, 1, none⟩ = false := blk_frozen (blk_below BS.out HB.out) 1
    have OL := Aside0.mk (show out.length ≤ 1000 by rw [OUT.out]; have := List.length_filter_le (fun x : S44 => !(x.f0 == o)) (rs.take kk); have := List.length_take_le kk rs; have := HL.out; omega)
    by_cases hlt : kk < rs.length
    · have hltz : (kk : Int) < (rs.length : Int) := by omega
      have h0k : (0 : Int) ≤ (kk : Int) := by omega
      obtain ⟨ad, ea, h0, h1, h2⟩ := at_T44 (Kd.C_below (Kd.R_reads' HRr.out).2.2 HB.out) (kk : Int) (by omega) (by omega)
      cases ea
      have hrd : rd_T44 rs (kk : Int) = rs[kk] := by simp [rd_T44, hlt]
      rw [hrd] at h0 h1 h2
      simp only [Int.toNat_natCast] at h0 h1 h2
      clear hrd
      generalize hx : rs[kk] = x at h0 h1 h2
      have X := Aside0.mk hx
      clear hx
      cases hq : (x.f0 == o) with
      | true =>
        go_wp2
        go_roundg (rs.length - (kk + 1))
        case measure => omega
        case rel => exact ⟨kk + 1, A1, c1, out, hlt, by omega, rfl, by go_num, ⟨by rw [filt44_one _ hlt, X.out, OUT.out]; simp [hq]⟩, HO, HB⟩
      | false =>
        obtain ⟨out2, ho2⟩ : ∃ l : List S44, l = out ++ [x] := ⟨_, rfl⟩
        have O2 := Aside0.mk ho2
        clear ho2
        go_wp2_with (first | ((with_reducible refine gate_builtin (b := .append) (xs := #[.tmp 25, .tmp 33]) rfl ?_); at_builtin; refine Kd.R_append k44 (w0 := w) w.heap.size rfl (.tmp 25) (.tmp 33) 40 44 (.agg #[.int .i64 0, .int .i64 0, .int .i64 0]) 24 rfl Try.underlying40 (by kernel_rfl) rfl (by decide) (by omega) (.slice A1 out.length c1) out x [.int .i64 x.f0, .int .i64 x.f1, .int .i64 x.f2] (fun _ => True) (fun _ => False) rfl rfl ?aP (fun _ hk => hk.elim) ?aF ?aO ?aB ?aS ?aL ?_; (case aP => exact k44_mkM _ _ _ x); (case aB => exact HB.out); (case aF => exact fun _ _ => trivial); (case aO => exact HO.out); (case aS => exact below_size HB.out); (case aL => have := OL.out; omega); intro v1 w5 ho hb hg hat; rw [← O2.out] at ho; (obtain ⟨A2, c2, ee⟩ := Kd.R_slice ho; subst ee); have n1 := Aside0.mk ho; have n2 := Aside0.mk hb; clear HO HB ho hb hg hat qBS0 qBS1 zBS0 zBS1 h0 h1 h2; have HO := n1; have HB := n2; clear n1 n2))
        go_roundg (rs.length - (kk + 1))
        case measure => omega
        case rel => exact ⟨kk + 1, A2, c2, out2, hlt, by omega, rfl, by go_num, ⟨by rw [filt44_one _ hlt, X.out, O2.out, OUT.out]; simp [hq]⟩, HO, HB⟩
    · have hltz : ¬ (kk : Int) < (rs.length : Int) := by omega
      have hk : kk = rs.length := by omega
      subst hk
      go_wp2
      first | go_end0 | ((try simp only [Exit.inBlock, Exit.then]); refine bodyPost_ret (results_none rfl _ _ _) rfl ?_)
      have bs := blk_below BS.out HB.out
      have hs : Fr [43] wr (wr.setCell ⟨g, 0, none⟩ (.slice A1 out.length c1)) := (Fr.refl _ _).set bs (by decide) _
      have he : out = rs.filter (fun x => !(x.f0 == o)) := by rw [OUT.out, List.take_length]
      refine ⟨rfl, ?_, (Fr.of_below HB.out).set bs (by decide) _, (HB.out.mono HBASE.out).setCell GE.out _⟩
      rw [← he]
      exact ⟨_, _, blk_put bs 0 _ rfl, GE.out, R_fr rfl (Kd.R_lower HO.out HBASE.out) hs (by decide), R_fr rfl (Kd.R_below HRo.out HB.out) hs (by decide)⟩

set_option maxHeartbeats 8000000 in
set_option maxRecDepth 100000 in
theorem dunc_calls (base g : Nat) (rs : List S44) (os : List S45) (w : World) (h : IsD base w g rs os) (hl : rs.length ≤ 1000) :
    Calls Try.prog 24 #[.pointer (some ⟨g, 0, none⟩)] w fun e w' => ∃ v0_ : Value, e = .returned v0_ ∧ Kd.R k44 44 w' w.heap.size (fun _ => True) v0_ (rs.filter (fun x => find45 os x.f0 == -1)) ∧ Below w.heap.size w w' := by
  have hi := h
  obtain ⟨vr, vo, hg0, hge, hr, ho⟩ := h
  obtain ⟨Ar, cr, er⟩ := Kd.R_slice hr
  obtain ⟨Ao, co, eo⟩ := Kd.R_slice ho
  subst er eo
  have BS := Aside0.mk hg0
  have HRr := Aside0.mk hr
  have HRo := Aside0.mk ho
  have GE := Aside0.mk hge
  have HB := Aside0.mk (Below.refl w.heap.size w)
  have hmr : rs.length ≤ 9223372036854775807 := Kd.C_max (Kd.R_reads' hr).2.2
  have hmo : os.length ≤ 9223372036854775807 := Kd.C_max (Kd.R_reads' ho).2.2
  have hu44 := Try.underlying44
  have hu45 := Try.underlying45
  have hu43 := Try.underlying43
  clear hg0 hge hr ho
  have HI := Aside0.mk hi
  have HL := Aside0.mk hl
  clear hl hi
  go_enter Try.func24, Try.ntmps24
  go_wp2
  go_loopg [3, 4] rs.length (fun gg s4 s5 wr => ∃ (kk : Nat) (A1 : Option Addr) (c1 : Nat) (out : List S44), kk ≤ rs.length ∧ rs.length - kk ≤ gg ∧ s4 = .slice A1 out.length c1 ∧ s5 = .int .i64 kk ∧ Aside0 (out = (rs.take kk).filter (fun x => find45 os x.f0 == -1)) ∧ Aside0 (Kd.R k44 44 wr w.heap.size (fun _ => True) (.slice A1 out.length c1) out) ∧ Aside0 (Below w.heap.size w wr))
  case atStart => exact ⟨0, none, 0, [], Nat.zero_le _, by omega, rfl, rfl, ⟨by simp⟩, ⟨Kd.R_nil _ _ _ _ _⟩, HB⟩
  case round =>
    clear HB
    obtain ⟨kk, A1, c1, out, hkk, hgg, rfl, rfl, OUT, HO, HB⟩ := hrel
    have qBS0 : World.cell? wr ⟨g, 0, none⟩ = some (.slice Ar rs.length cr) := (blk_cell (blk_below BS.out HB.out) 0).trans rfl
    have qBS1 : World.cell? wr ⟨g, 1, none⟩ = some (.slice Ao os.length co) := (blk_cell (blk_below BS.out HB.out) 1).trans rfl
    have zBS0 : World.frozen? wr ⟨g, 0, none⟩ = false := blk_frozen (blk_below BS.out HB.out) 0
    have zBS1 : World.frozen? wr ⟨g, 1, none⟩ = false := blk_frozen (blk_below BS.out HB.out) 1
    have OL := Aside0.mk (show out.length ≤ 1000 by rw [OUT.out]; have := List.length_filter_le (fun x : S44 => find45 os x.f0 == -1) (rs.take kk); have := List.length_take_le kk rs; have := HL.out; omega)
    by_cases hlt : kk < rs.length
    · have hltz : (kk : Int) < (rs.length : Int) := by omega
      have h0k : (0 : Int) ≤ (kk : Int) := by omega
      obtain ⟨ad, ea, h0, h1, h2⟩ := at_T44 (Kd.C_below (Kd.R_reads' HRr.out).2.2 HB.out) (kk : Int) (by omega) (by omega)
      cases ea
      have hrd : rd_T44 rs (kk : Int) = rs[kk] := by simp [rd_T44, hlt]
      rw [hrd] at h0 h1 h2
      simp only [Int.toNat_natCast] at h0 h1 h2
      clear hrd
      generalize hx : rs[kk] = x at h0 h1 h2
      have X := Aside0.mk hx
      clear hx
      obtain ⟨m, hm⟩ : ∃ m : Int, find45 os x.f0 = m := ⟨_, rfl⟩
      have HM := Aside0.mk hm
      rcases find45_cases os x.f0 with ⟨hf, e1⟩ | ⟨k, hk, hf, e1, e2⟩
      · have hm1 : m = -1 := by omega
        subst hm1
        clear hm hf e1
        obtain ⟨out2, ho2⟩ : ∃ l : List S44, l = out ++ [x] := ⟨_, rfl⟩
        have O2 := Aside0.mk ho2
        clear ho2
        go_wp2_with (first | (go_at_call 20; refine (dhas45_calls base g rs os x.f0 _ (HI.out.below HB.out)).mono ?_; rintro e w' ⟨rfl, rfl⟩; rw [HM.out]) | ((with_reducible refine gate_builtin (b := .append) (xs := #[.tmp 25, .tmp 33]) rfl ?_); at_builtin; refine Kd.R_append k44 (w0 := w) w.heap.size rfl (.tmp 25) (.tmp 33) 40 44 (.agg #[.int .i64 0, .int .i64 0, .int .i64 0]) 24 rfl Try.underlying40 (by kernel_rfl) rfl (by decide) (by omega) (.slice A1 out.length c1) out x [.int .i64 x.f0, .int .i64 x.f1, .int .i64 x.f2] (fun _ => True) (fun _ => False) rfl rfl ?aP (fun _ hk => hk.elim) ?aF ?aO ?aB ?aS ?aL ?_; (case aP => exact k44_mkM _ _ _ x); (case aB => exact HB.out); (case aF => exact fun _ _ => trivial); (case aO => exact HO.out); (case aS => exact below_size HB.out); (case aL => have := OL.out; omega); intro v1 w5 ho hb hg hat; rw [← O2.out] at ho; (obtain ⟨A2, c2, ee⟩ := Kd.R_slice ho; subst ee); have n1 := Aside0.mk ho; have n2 := Aside0.mk hb; clear HO HB ho hb hg hat qBS0 qBS1 zBS0 zBS1 h0 h1 h2; have HO := n1; have HB := n2; clear n1 n2))
        go_roundg (rs.length - (kk + 1))
        case measure => omega
        case rel => exact ⟨kk + 1, A2, c2, out2, hlt, by omega, rfl, by go_num, ⟨by rw [filt44_one _ hlt, X.out, O2.out, OUT.out]; simp [HM.out]⟩, HO, HB⟩
      · have hmk : m = (k : Int) := by omega
        subst hmk
        have h0m : ¬ (k : Int) < 0 := by omega
        have HNK := Aside0.mk (show ¬ (k : Int) = -1 by omega)
        clear hm hf e1 e2 hk
        go_wp2_with (first | (go_at_call 20; refine (dhas45_calls base g rs os x.f0 _ (HI.out.below HB.out)).mono ?_; rintro e w' ⟨rfl, rfl⟩; rw [HM.out]))
        go_roundg (rs.length - (kk + 1))
        case measure => omega
        case rel => exact ⟨kk + 1, A1, c1, out, hlt, by omega, rfl, by go_num, ⟨by rw [filt44_one _ hlt, X.out, OUT.out]; simp [HM.out, HNK.out]⟩, HO, HB⟩
    · have hltz : ¬ (kk : Int) < (rs.length : Int) := by omega
      have hk : kk = rs.length := by omega
      subst hk
      go_wp2
      go_ret
      have he : out = rs.filter (fun x => find45 os x.f0 == -1) := by rw [OUT.out, List.take_length]
      exact ⟨_, rfl, he ▸ HO.out, HB.out⟩

set_option maxHeartbeats 8000000 in
set_option maxRecDepth 100000 in
theorem dput_miss (base g : Nat) (rs : List S44) (os : List S45) (x : S45) (w : World) (h : IsD base w g rs os) (hbase : base ≤ w.heap.size) (hl : os.length ≤ 1000) (hf : find45 os x.f0 = -1) :
    Calls Try.prog 17 #[.pointer (some ⟨g, 0, none⟩), .agg #[.int .i64 x.f0, .int .i64 x.f1, .int .i64 x.f2, .int .i64 x.f3, .bool x.f4]] w fun e w' => e = .returned (.tuple #[]) ∧ IsD base w' g rs (os ++ [x]) ∧ Fr [43, 45] w w' ∧ Below base w w' := by
  obtain ⟨vr, vo, hg0, hge, hr, ho⟩ := h
  obtain ⟨Ar, cr, er⟩ := Kd.R_slice hr
  obtain ⟨Ao, co, eo⟩ := Kd.R_slice ho
  subst er eo
  have BS := Aside0.mk hg0
  have HRr := Aside0.mk hr
  have HRo := Aside0.mk ho
  have GE := Aside0.mk hge
  have HB := Aside0.mk (Below.refl w.heap.size w)
  have hmr : rs.length ≤ 9223372036854775807 := Kd.C_max (Kd.R_reads' hr).2.2
  have hmo : os.length ≤ 9223372036854775807 := Kd.C_max (Kd.R_reads' ho).2.2
  have hu44 := Try.underlying44
  have hu45 := Try.underlying45
  have hu43 := Try.underlying43
  clear hg0 hge hr ho
  have HL := Aside0.mk hl
  have HF := Aside0.mk hf
  have HBASE := Aside0.mk hbase
  obtain ⟨nl, hnl⟩ : ∃ l : List S45, l = os ++ [x] := ⟨_, rfl⟩
  rw [← hnl]
  have HNL := Aside0.mk hnl
  clear hl hf hbase hnl
  (try clear qBS0)
  have qBS0 : World.cell? _ ⟨g, 0, none⟩ = some (.slice Ar rs.length cr) := (blk_cell BS.out 0).trans rfl
  (try clear zBS0)
  have zBS0 : World.frozen? _ ⟨g, 0, none⟩ = false := blk_frozen BS.out 0
  (try clear qBS1)
  have qBS1 : World.cell? _ ⟨g, 1, none⟩ = some (.slice Ao os.length co) := (blk_cell BS.out 1).trans rfl
  (try clear zBS1)
  have zBS1 : World.frozen? _ ⟨g, 1, none⟩ = false := blk_frozen BS.out 1
  go_enter Try.func17, Try.ntmps17
  go_upto_region 3 with (first | ((with_reducible refine gate_dst (N := 3) rfl ?_); refine box_event ?hg (N := 3) ?hd (cs := #[.int .i64 x.f0, .int .i64 x.f1, .int .i64 x.f2, .int .i64 x.f3, .bool x.f4]) (t := 45) ?hr ?_; (case hd => rfl); (case hg => rfl); (case hr => first | (go_simp; done) | (go_simp; rfl)); intro gx hg w1 hbox hb; have n_HB := Aside0.mk (below_step HB.out hb); have n_BS := Aside0.mk (blk_below BS.out hb); have n_HRr := Aside0.mk (Kd.R_below HRr.out hb); have n_HRo := Aside0.mk (Kd.R_below HRo.out hb); have n_BK := Aside0.mk (hbox); clear HB BS HRr HRo; have HB := n_HB; clear n_HB; have BS := n_BS; clear n_BS; have HRr := n_HRr; clear n_HRr; have HRo := n_HRo; clear n_HRo; have BK := n_BK; clear n_BK; (try clear qBS0); have qBS0 : World.cell? _ ⟨g, 0, none⟩ = some (.slice Ar rs.length cr) := (blk_cell BS.out 0).trans rfl; (try clear zBS0); have zBS0 : World.frozen? _ ⟨g, 0, none⟩ = false := blk_frozen BS.out 0; (try clear qBS1); have qBS1 : World.cell? _ ⟨g, 1, none⟩ = some (.slice Ao os.length co) := (blk_cell BS.out 1).trans rfl; (try clear zBS1); have zBS1 : World.frozen? _ ⟨g, 1, none⟩ = false := blk_frozen BS.out 1; (try clear qBK0); have qBK0 : World.cell? _ ⟨gx, 0, none⟩ = some (.int .i64 x.f0) := (blk_cell BK.out 0).trans rfl; (try clear zBK0); have zBK0 : World.frozen? _ ⟨gx, 0, none⟩ = false := blk_frozen BK.out 0; (try clear qBK1); have qBK1 : World.cell? _ ⟨gx, 1, none⟩ = some (.int .i64 x.f1) := (blk_cell BK.out 1).trans rfl; (try clear zBK1); have zBK1 : World.frozen? _ ⟨gx, 1, none⟩ = false := blk_frozen BK.out 1; (try clear qBK2); have qBK2 : World.cell? _ ⟨gx, 2, none⟩ = some (.int .i64 x.f2) := (blk_cell BK.out 2).trans rfl; (try clear zBK2); have zBK2 : World.frozen? _ ⟨gx, 2, none⟩ = false := blk_frozen BK.out 2; (try clear qBK3); have qBK3 : World.cell? _ ⟨gx, 3, none⟩ = some (.int .i64 x.f3) := (blk_cell BK.out 3).trans rfl; (try clear zBK3); have zBK3 : World.frozen? _ ⟨gx, 3, none⟩ = false := blk_frozen BK.out 3; (try clear qBK4); have qBK4 : World.cell? _ ⟨gx, 4, none⟩ = some (.bool x.f4) := (blk_cell BK.out 4).trans rfl; (try clear zBK4); have zBK4 : World.frozen? _ ⟨gx, 4, none⟩ = false := blk_frozen BK.out 4; clear hbox hb; (try clear hg)) | (go_at_call 20; refine (dhas45_calls base g rs os x.f0 _ ⟨_, _, BS.out, GE.out, HRr.out, HRo.out⟩).mono ?_; rintro e w2 ⟨rfl, rfl⟩; rw [HF.out]))
  have n_HB := Aside0.mk (below_drew1 HB.out); have n_BS := Aside0.mk (blk_drew BS.out); have n_HRr := Aside0.mk (Kd.R_drew HRr.out); have n_HRo := Aside0.mk (Kd.R_drew HRo.out); have n_BK := Aside0.mk (blk_drew BK.out); clear HB BS HRr HRo BK; have HB := n_HB; clear n_HB; have BS := n_BS; clear n_BS; have HRr := n_HRr; clear n_HRr; have HRo := n_HRo; clear n_HRo; have BK := n_BK; clear n_BK; (try clear qBS0); have qBS0 : World.cell? _ ⟨g, 0, none⟩ = some (.slice Ar rs.length cr) := (blk_cell BS.out 0).trans rfl; (try clear zBS0); have zBS0 : World.frozen? _ ⟨g, 0, none⟩ = false := blk_frozen BS.out 0; (try clear qBS1); have qBS1 : World.cell? _ ⟨g, 1, none⟩ = some (.slice Ao os.length co) := (blk_cell BS.out 1).trans rfl; (try clear zBS1); have zBS1 : World.frozen? _ ⟨g, 1, none⟩ = false := blk_frozen BS.out 1; (try clear qBK0); have qBK0 : World.cell? _ ⟨gx, 0, none⟩ = some (.int .i64 x.f0) := (blk_cell BK.out 0).trans rfl; (try clear zBK0); have zBK0 : World.frozen? _ ⟨gx, 0, none⟩ = false := blk_frozen BK.out 0; (try clear qBK1); have qBK1 : World.cell? _ ⟨gx, 1, none⟩ = some (.int .i64 x.f1) := (blk_cell BK.out 1).trans rfl; (try clear zBK1); have zBK1 : World.frozen? _ ⟨gx, 1, none⟩ = false := blk_frozen BK.out 1; (try clear qBK2); have qBK2 : World.cell? _ ⟨gx, 2, none⟩ = some (.int .i64 x.f2) := (blk_cell BK.out 2).trans rfl; (try clear zBK2); have zBK2 : World.frozen? _ ⟨gx, 2, none⟩ = false := blk_frozen BK.out 2; (try clear qBK3); have qBK3 : World.cell? _ ⟨gx, 3, none⟩ = some (.int .i64 x.f3) := (blk_cell BK.out 3).trans rfl; (try clear zBK3); have zBK3 : World.frozen? _ ⟨gx, 3, none⟩ = false := blk_frozen BK.out 3; (try clear qBK4); have qBK4 : World.cell? _ ⟨gx, 4, none⟩ = some (.bool x.f4) := (blk_cell BK.out 4).trans rfl; (try clear zBK4); have zBK4 : World.frozen? _ ⟨gx, 4, none⟩ = false := blk_frozen BK.out 4
  refine start_ (n := 11) (S := fun w' => Below w2.drew.heap.size w2.drew w') (ds := [7, 10]) #[false, false, false, false, false, false, false, false, false, false, false] (by kernel_rfl) rfl rfl (Below.refl _ _) (fun hHeld => ?_)
  generalize w2.drew = wS at HB BS HRr HRo BK hHeld ⊢
  refine pure_ (i := 0) (N := (some 11)) (v := ?_) (a' := ?_) #[true, false, false, false, false, false, false, false, false, false, false] rfl rfl (by kernel_rfl) (fun _ _ _ h => h) (Or.inl ⟨by rfl, ?_⟩) ?_ ?_
  rotate_left
  · intro w'
    go_simp
    with_reducible rfl
  rotate_left
  · (try simp only [Act.put, List.setIfInBounds_toArray, List.set_cons_zero, List.set_cons_succ, i64_w, i32_w])
    rfl
  refine pure_ (i := 1) (N := (some 12)) (v := ?_) (a' := ?_) #[true, true, false, false, false, false, false, false, false, false, false] rfl rfl (by kernel_rfl) (fun _ _ _ h => h) (Or.inl ⟨by rfl, ?_⟩) ?_ ?_
  rotate_left
  · intro w'
    go_simp
    with_reducible rfl
  rotate_left
  · (try simp only [Act.put, List.setIfInBounds_toArray, List.set_cons_zero, List.set_cons_succ, i64_w, i32_w])
    rfl
  refine pure_ (i := 2) (N := (some 13)) (v := ?_) (a' := ?_) #[true, true, true, false, false, false, false, false, false, false, false] rfl rfl (by kernel_rfl) (fun _ _ _ h => h) (Or.inl ⟨by rfl, ?_⟩) ?_ ?_
  rotate_left
  · intro w'
    go_simp
    with_reducible rfl
  rotate_left
  · (try simp only [Act.put, List.setIfInBounds_toArray, List.set_cons_zero, List.set_cons_succ, i64_w, i32_w])
    rfl
  refine pure_ (i := 3) (N := (some 14)) (v := ?_) (a' := ?_) #[true, true, true, true, false, false, false, false, false, false, false] rfl rfl (by kernel_rfl) (fun _ _ _ h => h) (Or.inl ⟨by rfl, ?_⟩) ?_ ?_
  rotate_left
  · intro w'
    go_simp
    with_reducible rfl
  rotate_left
  · (try simp only [Act.put, List.setIfInBounds_toArray, List.set_cons_zero, List.set_cons_succ, i64_w, i32_w])
    rfl
  refine take_ (i := 4) (N := some 15) (v := ?_) (a' := ?_) #[true, true, true, true, true, false, false, false, false, false, false] rfl rfl (by kernel_rfl) (fun _ _ _ h => h) (Or.inl ⟨by rfl, ?_⟩) hHeld ?_ ?_
  rotate_left
  · intro w' s0
    have q0 : World.cell? w' ⟨g, 0, none⟩ = some (.slice Ar rs.length cr) := (blk_cell (blk_below BS.out s0) 0).trans rfl
    have q1 : World.cell? w' ⟨g, 1, none⟩ = some (.slice Ao os.length co) := (blk_cell (blk_below BS.out s0) 1).trans rfl
    go_simp
    with_reducible rfl
  rotate_left
  · (try simp only [Act.put, List.setIfInBounds_toArray, List.set_cons_zero, List.set_cons_succ, i64_w, i32_w])
    rfl
  refine take_ (i := 5) (N := some 16) (v := ?_) (a' := ?_) #[true, true, true, true, true, true, false, false, false, false, false] rfl rfl (by kernel_rfl) (fun _ _ _ h => h) (Or.inl ⟨by rfl, ?_⟩) hHeld ?_ ?_
  rotate_left
  · intro w' s0
    have q0 : World.cell? w' ⟨gx, 0, none⟩ = some (.int .i64 x.f0) := (blk_cell (blk_below BK.out s0) 0).trans rfl
    have q1 : World.cell? w' ⟨gx, 1, none⟩ = some (.int .i64 x.f1) := (blk_cell (blk_below BK.out s0) 1).trans rfl
    have q2 : World.cell? w' ⟨gx, 2, none⟩ = some (.int .i64 x.f2) := (blk_cell (blk_below BK.out s0) 2).trans rfl
    have q3 : World.cell? w' ⟨gx, 3, none⟩ = some (.int .i64 x.f3) := (blk_cell (blk_below BK.out s0) 3).trans rfl
    have q4 : World.cell? w' ⟨gx, 4, none⟩ = some (.bool x.f4) := (blk_cell (blk_below BK.out s0) 4).trans rfl
    go_simp
    with_reducible rfl
  rotate_left
  · (try simp only [Act.put, List.setIfInBounds_toArray, List.set_cons_zero, List.set_cons_succ, i64_w, i32_w])
    rfl
  refine one_ (i := 6) (N := (some 17)) #[true, true, true, true, true, true, true, false, false, false, false] rfl rfl (by kernel_rfl) (by decide) (fun K hK => ?_)
  refine value_ (w1 := World.alloc wS (.cells #[.int .i64 x.f0, .int .i64 x.f1, .int .i64 x.f2, .int .i64 x.f3, .bool x.f4] 45)) (v := .slice (some ⟨wS.heap.size, 0, none⟩) 1 1) (by rfl) rfl ?_ ?_
  · go_simp
  have hh := below_alloc hHeld (Obj.cells #[.int .i64 x.f0, .int .i64 x.f1, .int .i64 x.f2, .int .i64 x.f3, .bool x.f4] 45); clear hHeld; have hHeld := hh; clear hh
  refine hK.out _ _ hHeld (fun _ => ?_)
  clear hK K
  refine norm_ (a' := ?_) ?_ ?_
  rotate_left
  · show Act.put _ (some 17) _ = _
    (try simp only [Act.put, List.setIfInBounds_toArray, List.set_cons_zero, List.set_cons_succ, i64_w, i32_w])
    rfl
  refine last_ (i := 7) (N := (some 18)) #[true, true, true, true, true, true, true, true, false, false, false] rfl rfl (by kernel_rfl) (by decide) (fun K hK => ?_)
  refine Kd.R_append_step k45 (w0 := w) (W := wS) base (by rfl) (.tmp 15) (.tmp 17) 41 45 (.agg #[.int .i64 0, .int .i64 0, .int .i64 0, .int .i64 0, .bool false]) 40 rfl Try.underlying41 (by kernel_rfl) rfl (by decide) (by omega) (.slice Ao os.length co) os x [.int .i64 x.f0, .int .i64 x.f1, .int .i64 x.f2, .int .i64 x.f3, .bool x.f4] (fun _ => True) (fun _ => False) rfl rfl (k45_mkM _ _ _ x) (fun _ h => h.elim) (fun _ _ => trivial) HRo.out (HB.out.mono HBASE.out) (Nat.le_trans HBASE.out (below_size HB.out)) (by have := HL.out; omega) ?_
  intro v1 w5 ho hb hg hat
  rw [← HNL.out] at ho
  obtain ⟨A1, c1, ee⟩ := Kd.R_slice ho
  subst ee
  have HFR := Aside0.mk ((Fr.of_below HB.out).grown hg (fun k hk => by obtain ⟨cs, hcs⟩ := Kd.R_typed HRo.out k hk; exact ⟨cs, 45, _, hcs, by decide⟩) : Fr [43, 45] w w5)
  have n1 := Aside0.mk (blk_grown BS.out hg (Kd.R_ne HRo.out BS.out (by decide)))
  have n2 := Aside0.mk (Kd.R_over' HRr.out (Kd.R_typed HRo.out) (by decide) hg)
  have n3 := Aside0.mk ho; have n4 := Aside0.mk hb
  clear BS HRr HRo HB BK; have BS := n1; have HRr := n2; have HRo := n3; have HBB := n4; clear n1 n2 n3 n4 ho hb hg hat
  refine hK.out _ _ ?_
  clear hK K
  refine norm_ (a' := ?_) ?_ ?_
  rotate_left
  · show Act.put _ (some 18) _ = _
    (try simp only [Act.put, List.setIfInBounds_toArray, List.set_cons_zero, List.set_cons_succ, i64_w, i32_w])
    rfl
  refine pure_ (i := 8) (N := (some 19)) (v := ?_) (a' := ?_) #[true, true, true, true, true, true, true, true, true, false, false] rfl rfl (by kernel_rfl) (fun _ _ _ h => h) (Or.inl ⟨by rfl, ?_⟩) ?_ ?_
  rotate_left
  · intro w'
    go_simp
    with_reducible rfl
  rotate_left
  · (try simp only [Act.put, List.setIfInBounds_toArray, List.set_cons_zero, List.set_cons_succ, i64_w, i32_w])
    rfl
  refine pure_ (i := 9) (N := (some 20)) (v := ?_) (a' := ?_) #[true, true, true, true, true, true, true, true, true, true, false] rfl rfl (by kernel_rfl) (fun _ _ _ h => h) (Or.inl ⟨by rfl, ?_⟩) ?_ ?_
  rotate_left
  · intro w'
    go_simp
    with_reducible rfl
  rotate_left
  · (try simp only [Act.put, List.setIfInBounds_toArray, List.set_cons_zero, List.set_cons_succ, i64_w, i32_w])
    rfl
  refine last_ (i := 10) (N := none) #[true, true, true, true, true, true, true, true, true, true, true] rfl rfl (by kernel_rfl) (by decide) (fun K hK => ?_)
  refine skip_ (w1 := w5.setCell ⟨g, 1, none⟩ (.slice A1 nl.length c1)) (by rfl) rfl ?_ ?_
  · have q0 : World.cell? w5 ⟨g, 0, none⟩ = some (.slice Ar rs.length cr) := (blk_cell (BS.out) 0).trans rfl; have q1 : World.cell? w5 ⟨g, 1, none⟩ = some (.slice Ao os.length co) := (blk_cell (BS.out) 1).trans rfl; have hfz : World.frozen? w5 ⟨g, 1, none⟩ = false := blk_frozen BS.out 1; go_simp
  refine hK.out _ _ ?_
  clear hK K
  refine done_ (by kernel_rfl) ?_
  try go_wp2
  first | go_end0 | ((try simp only [Exit.inBlock, Exit.then]); refine bodyPost_ret (results_none rfl _ _ _) rfl ?_)
  have hs : Fr [43] w5 (w5.setCell ⟨g, 1, none⟩ (.slice A1 nl.length c1)) := (Fr.refl _ _).set BS.out (by decide) _
  exact ⟨rfl, ⟨_, _, blk_put BS.out 1 _ rfl, GE.out, R_fr rfl HRr.out hs (by decide), R_fr rfl HRo.out hs (by decide)⟩, HFR.out.set BS.out (by decide) _, HBB.out.setCell GE.out _⟩

set_option maxHeartbeats 8000000 in
set_option maxRecDepth 100000 in
theorem dput_hit (base g k : Nat) (rs : List S44) (os : List S45) (x : S45) (w : World) (h : IsD base w g rs os) (hbase : base ≤ w.heap.size) (hk : k < os.length) (hf : find45 os x.f0 = k) :
    Calls Try.prog 17 #[.pointer (some ⟨g, 0, none⟩), .agg #[.int .i64 x.f0, .int .i64 x.f1, .int .i64 x.f2, .int .i64 x.f3, .bool x.f4]] w fun e w' => e = .returned (.tuple #[]) ∧ IsD base w' g rs (os.set k x) ∧ Fr [43, 45] w w' ∧ Below base w w' := by
  obtain ⟨vr, vo, hg0, hge, hr, ho⟩ := h
  obtain ⟨Ar, cr, er⟩ := Kd.R_slice hr
  obtain ⟨Ao, co, eo⟩ := Kd.R_slice ho
  subst er eo
  have BS := Aside0.mk hg0
  have HRr := Aside0.mk hr
  have HRo := Aside0.mk ho
  have GE := Aside0.mk hge
  have HB := Aside0.mk (Below.refl w.heap.size w)
  have hmr : rs.length ≤ 9223372036854775807 := Kd.C_max (Kd.R_reads' hr).2.2
  have hmo : os.length ≤ 9223372036854775807 := Kd.C_max (Kd.R_reads' ho).2.2
  have hu44 := Try.underlying44
  have hu45 := Try.underlying45
  have hu43 := Try.underlying43
  clear hg0 hge hr ho
  have HK := Aside0.mk hk
  have HF := Aside0.mk hf
  have HBASE := Aside0.mk hbase
  have h0k : (0 : Int) ≤ (k : Int) := by omega
  have h0m : ¬ (k : Int) < 0 := by omega
  clear hf hbase hk
  (try clear qBS0)
  have qBS0 : World.cell? _ ⟨g, 0, none⟩ = some (.slice Ar rs.length cr) := (blk_cell BS.out 0).trans rfl
  (try clear zBS0)
  have zBS0 : World.frozen? _ ⟨g, 0, none⟩ = false := blk_frozen BS.out 0
  (try clear qBS1)
  have qBS1 : World.cell? _ ⟨g, 1, none⟩ = some (.slice Ao os.length co) := (blk_cell BS.out 1).trans rfl
  (try clear zBS1)
  have zBS1 : World.frozen? _ ⟨g, 1, none⟩ = false := blk_frozen BS.out 1
  go_enter Try.func17, Try.ntmps17
  go_upto_region 4 with (first | ((with_reducible refine gate_dst (N := 3) rfl ?_); refine box_event ?hg (N := 3) ?hd (cs := #[.int .i64 x.f0, .int .i64 x.f1, .int .i64 x.f2, .int .i64 x.f3, .bool x.f4]) (t := 45) ?hr ?_; (case hd => rfl); (case hg => rfl); (case hr => first | (go_simp; done) | (go_simp; rfl)); intro gx hg w1 hbox hb; have n_HB := Aside0.mk (below_step HB.out hb); have n_BS := Aside0.mk (blk_below BS.out hb); have n_HRr := Aside0.mk (Kd.R_below HRr.out hb); have n_HRo := Aside0.mk (Kd.R_below HRo.out hb); have n_BK := Aside0.mk (hbox); clear HB BS HRr HRo; have HB := n_HB; clear n_HB; have BS := n_BS; clear n_BS; have HRr := n_HRr; clear n_HRr; have HRo := n_HRo; clear n_HRo; have BK := n_BK; clear n_BK; (try clear qBS0); have qBS0 : World.cell? _ ⟨g, 0, none⟩ = some (.slice Ar rs.length cr) := (blk_cell BS.out 0).trans rfl; (try clear zBS0); have zBS0 : World.frozen? _ ⟨g, 0, none⟩ = false := blk_frozen BS.out 0; (try clear qBS1); have qBS1 : World.cell? _ ⟨g, 1, none⟩ = some (.slice Ao os.length co) := (blk_cell BS.out 1).trans rfl; (try clear zBS1); have zBS1 : World.frozen? _ ⟨g, 1, none⟩ = false := blk_frozen BS.out 1; (try clear qBK0); have qBK0 : World.cell? _ ⟨gx, 0, none⟩ = some (.int .i64 x.f0) := (blk_cell BK.out 0).trans rfl; (try clear zBK0); have zBK0 : World.frozen? _ ⟨gx, 0, none⟩ = false := blk_frozen BK.out 0; (try clear qBK1); have qBK1 : World.cell? _ ⟨gx, 1, none⟩ = some (.int .i64 x.f1) := (blk_cell BK.out 1).trans rfl; (try clear zBK1); have zBK1 : World.frozen? _ ⟨gx, 1, none⟩ = false := blk_frozen BK.out 1; (try clear qBK2); have qBK2 : World.cell? _ ⟨gx, 2, none⟩ = some (.int .i64 x.f2) := (blk_cell BK.out 2).trans rfl; (try clear zBK2); have zBK2 : World.frozen? _ ⟨gx, 2, none⟩ = false := blk_frozen BK.out 2; (try clear qBK3); have qBK3 : World.cell? _ ⟨gx, 3, none⟩ = some (.int .i64 x.f3) := (blk_cell BK.out 3).trans rfl; (try clear zBK3); have zBK3 : World.frozen? _ ⟨gx, 3, none⟩ = false := blk_frozen BK.out 3; (try clear qBK4); have qBK4 : World.cell? _ ⟨gx, 4, none⟩ = some (.bool x.f4) := (blk_cell BK.out 4).trans rfl; (try clear zBK4); have zBK4 : World.frozen? _ ⟨gx, 4, none⟩ = false := blk_frozen BK.out 4; clear hbox hb; (try clear hg)) | (go_at_call 20; refine (dhas45_calls base g rs os x.f0 _ ⟨_, _, BS.out, GE.out, HRr.out, HRo.out⟩).mono ?_; rintro e w2 ⟨rfl, rfl⟩; rw [HF.out]))
  obtain ⟨b, eb, hbb⟩ := block45 HRo.out HK.out
  subst eb
  (try clear qBS0)
  have qBS0 : World.cell? _ ⟨g, 0, none⟩ = some (.slice Ar rs.length cr) := (blk_cell BS.out 0).trans rfl
  (try clear zBS0)
  have zBS0 : World.frozen? _ ⟨g, 0, none⟩ = false := blk_frozen BS.out 0
  (try clear qBS1)
  have qBS1 : World.cell? _ ⟨g, 1, none⟩ = some (.slice (some ⟨b, 0, none⟩) os.length co) := (blk_cell BS.out 1).trans rfl
  (try clear zBS1)
  have zBS1 : World.frozen? _ ⟨g, 1, none⟩ = false := blk_frozen BS.out 1
  (try clear qBK0)
  have qBK0 : World.cell? _ ⟨gx, 0, none⟩ = some (.int .i64 x.f0) := (blk_cell BK.out 0).trans rfl
  (try clear zBK0)
  have zBK0 : World.frozen? _ ⟨gx, 0, none⟩ = false := blk_frozen BK.out 0
  (try clear qBK1)
  have qBK1 : World.cell? _ ⟨gx, 1, none⟩ = some (.int .i64 x.f1) := (blk_cell BK.out 1).trans rfl
  (try clear zBK1)
  have zBK1 : World.frozen? _ ⟨gx, 1, none⟩ = false := blk_frozen BK.out 1
  (try clear qBK2)
  have qBK2 : World.cell? _ ⟨gx, 2, none⟩ = some (.int .i64 x.f2) := (blk_cell BK.out 2).trans rfl
  (try clear zBK2)
  have zBK2 : World.frozen? _ ⟨gx, 2, none⟩ = false := blk_frozen BK.out 2
  (try clear qBK3)
  have qBK3 : World.cell? _ ⟨gx, 3, none⟩ = some (.int .i64 x.f3) := (blk_cell BK.out 3).trans rfl
  (try clear zBK3)
  have zBK3 : World.frozen? _ ⟨gx, 3, none⟩ = false := blk_frozen BK.out 3
  (try clear qBK4)
  have qBK4 : World.cell? _ ⟨gx, 4, none⟩ = some (.bool x.f4) := (blk_cell BK.out 4).trans rfl
  (try clear zBK4)
  have zBK4 : World.frozen? _ ⟨gx, 4, none⟩ = false := blk_frozen BK.out 4
  have hlt : (k : Int) < (os.length : Int) := by have := HK.out; omega
  have n_HB := Aside0.mk (below_drew1 HB.out); have n_BS := Aside0.mk (blk_drew BS.out); have n_HRr := Aside0.mk (Kd.R_drew HRr.out); have n_HRo := Aside0.mk (Kd.R_drew HRo.out); have n_BK := Aside0.mk (blk_drew BK.out); clear HB BS HRr HRo BK; have HB := n_HB; clear n_HB; have BS := n_BS; clear n_BS; have HRr := n_HRr; clear n_HRr; have HRo := n_HRo; clear n_HRo; have BK := n_BK; clear n_BK; (try clear qBS0); have qBS0 : World.cell? _ ⟨g, 0, none⟩ = some (.slice Ar rs.length cr) := (blk_cell BS.out 0).trans rfl; (try clear zBS0); have zBS0 : World.frozen? _ ⟨g, 0, none⟩ = false := blk_frozen BS.out 0; (try clear qBS1); have qBS1 : World.cell? _ ⟨g, 1, none⟩ = some (.slice (some ⟨b, 0, none⟩) os.length co) := (blk_cell BS.out 1).trans rfl; (try clear zBS1); have zBS1 : World.frozen? _ ⟨g, 1, none⟩ = false := blk_frozen BS.out 1; (try clear qBK0); have qBK0 : World.cell? _ ⟨gx, 0, none⟩ = some (.int .i64 x.f0) := (blk_cell BK.out 0).trans rfl; (try clear zBK0); have zBK0 : World.frozen? _ ⟨gx, 0, none⟩ = false := blk_frozen BK.out 0; (try clear qBK1); have qBK1 : World.cell? _ ⟨gx, 1, none⟩ = some (.int .i64 x.f1) := (blk_cell BK.out 1).trans rfl; (try clear zBK1); have zBK1 : World.frozen? _ ⟨gx, 1, none⟩ = false := blk_frozen BK.out 1; (try clear qBK2); have qBK2 : World.cell? _ ⟨gx, 2, none⟩ = some (.int .i64 x.f2) := (blk_cell BK.out 2).trans rfl; (try clear zBK2); have zBK2 : World.frozen? _ ⟨gx, 2, none⟩ = false := blk_frozen BK.out 2; (try clear qBK3); have qBK3 : World.cell? _ ⟨gx, 3, none⟩ = some (.int .i64 x.f3) := (blk_cell BK.out 3).trans rfl; (try clear zBK3); have zBK3 : World.frozen? _ ⟨gx, 3, none⟩ = false := blk_frozen BK.out 3; (try clear qBK4); have qBK4 : World.cell? _ ⟨gx, 4, none⟩ = some (.bool x.f4) := (blk_cell BK.out 4).trans rfl; (try clear zBK4); have zBK4 : World.frozen? _ ⟨gx, 4, none⟩ = false := blk_frozen BK.out 4
  refine start_ (n := 8) (S := fun w' => Below w2.drew.heap.size w2.drew w') (ds := [7]) #[false, false, false, false, false, false, false, false] (by kernel_rfl) rfl rfl (Below.refl _ _) (fun hHeld => ?_)
  generalize w2.drew = wS at HB BS HRr HRo BK hHeld ⊢
  refine pure_ (i := 0) (N := (some 21)) (v := ?_) (a' := ?_) #[true, false, false, false, false, false, false, false] rfl rfl (by kernel_rfl) (fun _ _ _ h => h) (Or.inl ⟨by rfl, ?_⟩) ?_ ?_
  rotate_left
  · intro w'
    go_simp
    with_reducible rfl
  rotate_left
  · (try simp only [Act.put, List.setIfInBounds_toArray, List.set_cons_zero, List.set_cons_succ, i64_w, i32_w])
    rfl
  refine pure_ (i := 1) (N := (some 22)) (v := ?_) (a' := ?_) #[true, true, false, false, false, false, false, false] rfl rfl (by kernel_rfl) (fun _ _ _ h => h) (Or.inl ⟨by rfl, ?_⟩) ?_ ?_
  rotate_left
  · intro w'
    go_simp
    with_reducible rfl
  rotate_left
  · (try simp only [Act.put, List.setIfInBounds_toArray, List.set_cons_zero, List.set_cons_succ, i64_w, i32_w])
    rfl
  refine pure_ (i := 2) (N := (some 23)) (v := ?_) (a' := ?_) #[true, true, true, false, false, false, false, false] rfl rfl (by kernel_rfl) (fun _ _ _ h => h) (Or.inl ⟨by rfl, ?_⟩) ?_ ?_
  rotate_left
  · intro w'
    go_simp
    with_reducible rfl
  rotate_left
  · (try simp only [Act.put, List.setIfInBounds_toArray, List.set_cons_zero, List.set_cons_succ, i64_w, i32_w])
    rfl
  refine take_ (i := 3) (N := some 24) (v := ?_) (a' := ?_) #[true, true, true, true, false, false, false, false] rfl rfl (by kernel_rfl) (fun _ _ _ h => h) (Or.inl ⟨by rfl, ?_⟩) hHeld ?_ ?_
  rotate_left
  · intro w' s0
    have q0 : World.cell? w' ⟨g, 0, none⟩ = some (.slice Ar rs.length cr) := (blk_cell (blk_below BS.out s0) 0).trans rfl
    have q1 : World.cell? w' ⟨g, 1, none⟩ = some (.slice (some ⟨b, 0, none⟩) os.length co) := (blk_cell (blk_below BS.out s0) 1).trans rfl
    go_simp
    with_reducible rfl
  rotate_left
  · (try simp only [Act.put, List.setIfInBounds_toArray, List.set_cons_zero, List.set_cons_succ, i64_w, i32_w])
    rfl
  refine pure_ (i := 4) (N := (some 25)) (v := ?_) (a' := ?_) #[true, true, true, true, true, false, false, false] rfl rfl (by kernel_rfl) (fun _ _ _ h => h) (Or.inl ⟨by rfl, ?_⟩) ?_ ?_
  rotate_left
  · intro w'
    go_simp
    with_reducible rfl
  rotate_left
  · (try simp only [Act.put, List.setIfInBounds_toArray, List.set_cons_zero, List.set_cons_succ, i64_w, i32_w])
    rfl
  refine take_ (i := 5) (N := some 26) (v := ?_) (a' := ?_) #[true, true, true, true, true, true, false, false] rfl rfl (by kernel_rfl) (fun _ _ _ h => h) (Or.inl ⟨by rfl, ?_⟩) hHeld ?_ ?_
  rotate_left
  · intro w' s0
    have q0 : World.cell? w' ⟨gx, 0, none⟩ = some (.int .i64 x.f0) := (blk_cell (blk_below BK.out s0) 0).trans rfl
    have q1 : World.cell? w' ⟨gx, 1, none⟩ = some (.int .i64 x.f1) := (blk_cell (blk_below BK.out s0) 1).trans rfl
    have q2 : World.cell? w' ⟨gx, 2, none⟩ = some (.int .i64 x.f2) := (blk_cell (blk_below BK.out s0) 2).trans rfl
    have q3 : World.cell? w' ⟨gx, 3, none⟩ = some (.int .i64 x.f3) := (blk_cell (blk_below BK.out s0) 3).trans rfl
    have q4 : World.cell? w' ⟨gx, 4, none⟩ = some (.bool x.f4) := (blk_cell (blk_below BK.out s0) 4).trans rfl
    go_simp
    with_reducible rfl
  rotate_left
  · (try simp only [Act.put, List.setIfInBounds_toArray, List.set_cons_zero, List.set_cons_succ, i64_w, i32_w])
    rfl
  refine pure_ (i := 6) (N := (some 27)) (v := ?_) (a' := ?_) #[true, true, true, true, true, true, true, false] rfl rfl (by kernel_rfl) (fun _ _ _ h => h) (Or.inl ⟨by rfl, ?_⟩) ?_ ?_
  rotate_left
  · intro w'
    go_simp
    with_reducible rfl
  rotate_left
  · (try simp only [Act.put, List.setIfInBounds_toArray, List.set_cons_zero, List.set_cons_succ, i64_w, i32_w])
    rfl
  refine last_ (i := 7) (N := none) #[true, true, true, true, true, true, true, true] rfl rfl (by kernel_rfl) (by decide) (fun K hK => ?_)
  refine skip_ (w1 := (World.setCell (World.setCell (World.setCell (World.setCell (World.setCell wS ⟨b, k * 5, none⟩ (.int .i64 x.f0)) ⟨b, k * 5 + 1, none⟩ (.int .i64 x.f1)) ⟨b, k * 5 + 2, none⟩ (.int .i64 x.f2)) ⟨b, k * 5 + 3, none⟩ (.int .i64 x.f3)) ⟨b, k * 5 + 4, none⟩ (.bool x.f4))) (by rfl) rfl ?_ ?_
  · have z0 := frozen45 HRo.out (k * 5); have z1 := frozen45 HRo.out (k * 5 + 1); have z2 := frozen45 HRo.out (k * 5 + 2); have z3 := frozen45 HRo.out (k * 5 + 3); have z4 := frozen45 HRo.out (k * 5 + 4); obtain ⟨u0, y0⟩ := cell45 HRo.out (k * 5) (by have := HK.out; omega); obtain ⟨u1, y1⟩ := cell45 HRo.out (k * 5 + 1) (by have := HK.out; omega); obtain ⟨u2, y2⟩ := cell45 HRo.out (k * 5 + 2) (by have := HK.out; omega); obtain ⟨u3, y3⟩ := cell45 HRo.out (k * 5 + 3) (by have := HK.out; omega); obtain ⟨u4, y4⟩ := cell45 HRo.out (k * 5 + 4) (by have := HK.out; omega); go_simp
  refine hK.out _ _ ?_
  clear hK K
  refine done_ (by kernel_rfl) ?_
  obtain ⟨s1, s2⟩ := store45 HRo.out x HK.out
  try go_wp2
  first | go_end0 | ((try simp only [Exit.inBlock, Exit.then]); refine bodyPost_ret (results_none rfl _ _ _) rfl ?_)
  have hg := (Fr.of_below HB.out : Fr [43, 45] w wS).grown s2 (fun k hk => by obtain ⟨cs, hcs⟩ := Kd.R_typed HRo.out k hk; exact ⟨cs, 45, _, hcs, by decide⟩)
  have hs : Fr [45] wS _ := (Fr.refl _ _).grown s2 (fun k hk => by obtain ⟨cs, hcs⟩ := Kd.R_typed HRo.out k hk; exact ⟨cs, 45, _, hcs, by decide⟩)
  exact ⟨rfl, ⟨_, _, hs.blk BS.out (by decide), GE.out, R_fr rfl HRr.out hs (by decide), s1⟩, hg, (HB.out.mono HBASE.out).grown s2 (Nat.le_trans HBASE.out (below_size HB.out)) (fun k hk => by injection hk with hk; exact hk ▸ hbb)⟩

end Go.Proofs.Ytfiniikeoemleaa.R
