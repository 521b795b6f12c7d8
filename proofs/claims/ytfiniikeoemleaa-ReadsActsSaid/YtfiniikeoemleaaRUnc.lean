/- The closure of Unclaimed, and IndexFunc, DeleteFunc with it. Conditions: the state, the row. Printed by wip/dev/gen12g.py. -/
import Derived.Test.YtfiniikeoemleaaRDel
namespace Go.Proofs.Ytfiniikeoemleaa.R
open Go Go.RowKit Go.Proofs.YtfiniikeoemleaaW.PrintWords Go.Proofs.YtfiniikeoemleaaW.PrintLast Go.Proofs.YtfiniikeoemleaaW.PrintMore
attribute [local go_sem] max2_int min2_int max_two min_two max_three min_three max_four min_four
set_option linter.unusedVariables false
set_option linter.unusedSimpArgs false

set_option maxHeartbeats 8000000 in
set_option maxRecDepth 100000 in
theorem mine_clo (base g P : Nat) (rs : List S30) (os : List S33) (x : S30) (w : World) (h : IsR base w g rs os) (hp : w.cell? ⟨P, 0, none⟩ = some (.pointer (some ⟨g, 0, none⟩))) :
    Calls Try.prog 32 #[.agg #[.int .i64 x.f0, .int .i64 x.f1, .int .i64 x.f2], .pointer (some ⟨P, 0, none⟩)] w fun e w' => e = .returned (.bool (has33 os x.f0).2) ∧ Below w.heap.size w w' := by
  have HS := Aside0.mk h
  have HP := Aside0.mk hp
  have HB := Aside0.mk (Below.refl w.heap.size w)
  have hu := Try.underlying30
  have hu2 := Try.underlying33
  clear h hp
  go_enter Try.func32, Try.ntmps32
  go_upto_region 1 with (first | ((with_reducible refine gate_dst (N := 2) rfl ?_); refine box_event ?hg (N := 2) ?hd (cs := #[.int .i64 x.f0, .int .i64 x.f1, .int .i64 x.f2]) (t := 30) ?hr ?_; (case hd => rfl); (case hg => rfl); (case hr => first | (go_simp; done) | (go_simp; rfl)); intro gx hg w1 hbox hb; have n_HB := Aside0.mk (below_step HB.out hb); have n_HS := Aside0.mk (IsR.below HS.out hb); have n_HP := Aside0.mk ((hb.cell (World.block_lt_of_cell? _ _ HP.out)).trans HP.out); have n_BK := Aside0.mk (hbox); clear HB HS HP; have HB := n_HB; clear n_HB; have HS := n_HS; clear n_HS; have HP := n_HP; clear n_HP; have BK := n_BK; clear n_BK; (try clear qBK0); have qBK0 : World.cell? _ ⟨gx, 0, none⟩ = some (.int .i64 x.f0) := (blk_cell BK.out 0).trans rfl; (try clear zBK0); have zBK0 : World.frozen? _ ⟨gx, 0, none⟩ = false := blk_frozen BK.out 0; (try clear qBK1); have qBK1 : World.cell? _ ⟨gx, 1, none⟩ = some (.int .i64 x.f1) := (blk_cell BK.out 1).trans rfl; (try clear zBK1); have zBK1 : World.frozen? _ ⟨gx, 1, none⟩ = false := blk_frozen BK.out 1; (try clear qBK2); have qBK2 : World.cell? _ ⟨gx, 2, none⟩ = some (.int .i64 x.f2) := (blk_cell BK.out 2).trans rfl; (try clear zBK2); have zBK2 : World.frozen? _ ⟨gx, 2, none⟩ = false := blk_frozen BK.out 2; clear hbox hb; (try clear hg)))
  have qP := HP.out
  generalize hm : has33 os x.f0 = y
  have HM := Aside0.mk hm
  clear hm
  go_wp2_with (first | ((with_reducible refine gate_callee (f := 19) rfl ?_); refine goesL_ (some 10) rfl rfl Try.func19 (by kernel_rfl) rfl #[.pointer (some ⟨g, 0, none⟩), .int .i64 x.f0] rfl (by (try simp only [List.map_toArray, List.map_cons, List.map_nil]); first | done | rfl | (simp only [List.length_drop, List.length_take]; rfl)) ?_; (refine (HM.out ▸ has33_calls base g rs os x.f0 _ HS.out).mono ?_); rintro e w2 ⟨rfl, hb⟩; refine ⟨_, rfl, ?_⟩; have n_HB := Aside0.mk (below_step HB.out hb); have n_HS := Aside0.mk (IsR.below HS.out hb); have n_HP := Aside0.mk ((hb.cell (World.block_lt_of_cell? _ _ HP.out)).trans HP.out); have n_BK := Aside0.mk (blk_below BK.out hb); clear HB HS HP BK; have HB := n_HB; clear n_HB; have HS := n_HS; clear n_HS; have HP := n_HP; clear n_HP; have BK := n_BK; clear n_BK; (try clear qBK0); have qBK0 : World.cell? _ ⟨gx, 0, none⟩ = some (.int .i64 x.f0) := (blk_cell BK.out 0).trans rfl; (try clear zBK0); have zBK0 : World.frozen? _ ⟨gx, 0, none⟩ = false := blk_frozen BK.out 0; (try clear qBK1); have qBK1 : World.cell? _ ⟨gx, 1, none⟩ = some (.int .i64 x.f1) := (blk_cell BK.out 1).trans rfl; (try clear zBK1); have zBK1 : World.frozen? _ ⟨gx, 1, none⟩ = false := blk_frozen BK.out 1; (try clear qBK2); have qBK2 : World.cell? _ ⟨gx, 2, none⟩ = some (.int .i64 x.f2) := (blk_cell BK.out 2).trans rfl; (try clear zBK2); have zBK2 : World.frozen? _ ⟨gx, 2, none⟩ = false := blk_frozen BK.out 2; clear hb) | ((with_reducible refine gate_dst (N := 4) rfl ?_); refine box_event ?hg (N := 4) ?hd (cs := #[.int .i64 0, .int .i64 0, .int .i64 0, .int .i64 0, .bool false]) (t := 33) ?hr ?_; (case hd => rfl); (case hg => rfl); (case hr => first | (go_simp; done) | (go_simp; rfl)); intro gy hg w3 hbox hb; have GY := Aside0.mk ((by rw [hg]; exact below_size HB.out : w.heap.size ≤ gy)); have n_HB := Aside0.mk (below_step HB.out hb); have n_HS := Aside0.mk (IsR.below HS.out hb); have n_HP := Aside0.mk ((hb.cell (World.block_lt_of_cell? _ _ HP.out)).trans HP.out); have n_BK := Aside0.mk (blk_below BK.out hb); have n_BY := Aside0.mk (hbox); clear HB HS HP BK; have HB := n_HB; clear n_HB; have HS := n_HS; clear n_HS; have HP := n_HP; clear n_HP; have BK := n_BK; clear n_BK; have BY := n_BY; clear n_BY; (try clear qBK0); have qBK0 : World.cell? _ ⟨gx, 0, none⟩ = some (.int .i64 x.f0) := (blk_cell BK.out 0).trans rfl; (try clear zBK0); have zBK0 : World.frozen? _ ⟨gx, 0, none⟩ = false := blk_frozen BK.out 0; (try clear qBK1); have qBK1 : World.cell? _ ⟨gx, 1, none⟩ = some (.int .i64 x.f1) := (blk_cell BK.out 1).trans rfl; (try clear zBK1); have zBK1 : World.frozen? _ ⟨gx, 1, none⟩ = false := blk_frozen BK.out 1; (try clear qBK2); have qBK2 : World.cell? _ ⟨gx, 2, none⟩ = some (.int .i64 x.f2) := (blk_cell BK.out 2).trans rfl; (try clear zBK2); have zBK2 : World.frozen? _ ⟨gx, 2, none⟩ = false := blk_frozen BK.out 2; (try clear qBY0); have qBY0 : World.cell? _ ⟨gy, 0, none⟩ = some (.int .i64 0) := (blk_cell BY.out 0).trans rfl; (try clear zBY0); have zBY0 : World.frozen? _ ⟨gy, 0, none⟩ = false := blk_frozen BY.out 0; (try clear qBY1); have qBY1 : World.cell? _ ⟨gy, 1, none⟩ = some (.int .i64 0) := (blk_cell BY.out 1).trans rfl; (try clear zBY1); have zBY1 : World.frozen? _ ⟨gy, 1, none⟩ = false := blk_frozen BY.out 1; (try clear qBY2); have qBY2 : World.cell? _ ⟨gy, 2, none⟩ = some (.int .i64 0) := (blk_cell BY.out 2).trans rfl; (try clear zBY2); have zBY2 : World.frozen? _ ⟨gy, 2, none⟩ = false := blk_frozen BY.out 2; (try clear qBY3); have qBY3 : World.cell? _ ⟨gy, 3, none⟩ = some (.int .i64 0) := (blk_cell BY.out 3).trans rfl; (try clear zBY3); have zBY3 : World.frozen? _ ⟨gy, 3, none⟩ = false := blk_frozen BY.out 3; (try clear qBY4); have qBY4 : World.cell? _ ⟨gy, 4, none⟩ = some (.bool false) := (blk_cell BY.out 4).trans rfl; (try clear zBY4); have zBY4 : World.frozen? _ ⟨gy, 4, none⟩ = false := blk_frozen BY.out 4; clear hbox hb; (try clear hg)))
  go_ret
  rw [HM.out]
  exact ⟨rfl, by repeat (first | exact HB.out | refine below_set ?_ GY.out)⟩

/-- The place of the first reading of an object of one's own, or -1. -/
def mineIdx (os : List S33) (l : List S30) : Int := match l.findIdx? (fun x => (has33 os x.f0).2) with | some i => (i : Int) | none => -1
theorem mineIdx_hit (os : List S33) (l : List S30) (k : Nat) (hk : k < l.length) (h : (has33 os l[k].f0).2 = true) (hb : ∀ j (hj : j < k), (has33 os (l[j]'(by omega)).f0).2 = false) : mineIdx os l = k := by
  have : l.findIdx? (fun x => (has33 os x.f0).2) = some k := by
    rw [List.findIdx?_eq_some_iff_getElem]
    exact ⟨hk, by simp [h], fun j hj => by simp [hb j hj]⟩
  simp [mineIdx, this]
theorem mineIdx_miss (os : List S33) (l : List S30) (hb : ∀ j (hj : j < l.length), (has33 os (l[j]'(by omega)).f0).2 = false) : mineIdx os l = -1 := by
  have : l.findIdx? (fun x => (has33 os x.f0).2) = none := by
    rw [List.findIdx?_eq_none_iff]
    intro x hx
    obtain ⟨i, hi, rfl⟩ := List.getElem_of_mem hx
    simp [hb i hi]
  simp [mineIdx, this]
theorem mineIdx_cases (os : List S33) (l : List S30) : (mineIdx os l = -1 ∧ ∀ x ∈ l, (has33 os x.f0).2 = false) ∨ ∃ (k : Nat) (hk : k < l.length), mineIdx os l = k ∧ (has33 os (l[k]).f0).2 = true ∧ ∀ j (hj : j < k), (has33 os (l[j]'(by omega)).f0).2 = false := by
  unfold mineIdx
  split
  · rename_i i h
    rw [List.findIdx?_eq_some_iff_getElem] at h
    obtain ⟨hi, h1, h2⟩ := h
    exact Or.inr ⟨i, hi, rfl, by simpa using h1, fun j hj => by simpa using h2 j hj⟩
  · rename_i h
    rw [List.findIdx?_eq_none_iff] at h
    exact Or.inl ⟨rfl, fun x hx => by simpa using h x hx⟩

set_option maxHeartbeats 8000000 in
theorem mineIdx_calls (base g P : Nat) (rs : List S30) (os : List S33) (A0 : Option Addr) (c0 : Nat) (l0 : List S30) (w : World) (hr0 : Kd.C k30 w A0 l0.length l0) (h : IsR base w g rs os) (hp : w.cell? ⟨P, 0, none⟩ = some (.pointer (some ⟨g, 0, none⟩))) :
    Calls Try.prog 34 #[.slice A0 l0.length c0, .func (.func 32) #[] #[.pointer (some ⟨P, 0, none⟩)]] w fun e w' => e = .returned (.int .i64 (mineIdx os l0)) ∧ Below w.heap.size w w' := by
  have hu30 := Try.underlying30
  have hmax : l0.length ≤ 9223372036854775807 := Kd.C_max hr0
  have HR := Aside0.mk hr0
  have HP := Aside0.mk hp
  have HS := Aside0.mk h
  clear hr0 h hp
  go_enter Try.func34, Try.ntmps34
  go_wp2
  go_loopg [5, 8] l0.length (fun gg _ s8 wr => ∃ kk : Nat, kk ≤ l0.length ∧ l0.length - kk ≤ gg ∧ s8 = .int .i64 kk ∧ Aside0 (Below w.heap.size w wr) ∧ Aside0 (∀ j (hj : j < kk) (hl : j < l0.length), (has33 os l0[j].f0).2 = false))
  case atStart => exact ⟨0, Nat.zero_le _, by omega, rfl, ⟨Below.refl _ w⟩, ⟨fun j hj => absurd hj (Nat.not_lt_zero _)⟩⟩
  case round =>
    obtain ⟨kk, hkk, hg, rfl, HB, A⟩ := hrel
    by_cases hlt : kk < l0.length
    · have hltz : (kk : Int) < (l0.length : Int) := by omega
      obtain ⟨ad, ea, h0, h1, h2⟩ := at_T30 HR.out (kk : Int) (by omega) (by omega)
      subst ea
      replace h0 := (HB.out.cell (World.block_lt_of_cell? w _ h0)).trans h0
      replace h1 := (HB.out.cell (World.block_lt_of_cell? w _ h1)).trans h1
      replace h2 := (HB.out.cell (World.block_lt_of_cell? w _ h2)).trans h2
      have hcelp := (HB.out.cell (World.block_lt_of_cell? w _ HP.out)).trans HP.out
      have hrd : rd_T30 l0 (kk : Int) = l0[kk] := by simp [rd_T30, hlt]
      rw [hrd] at h0 h1 h2
      simp only [Int.toNat_natCast] at h0 h1 h2
      have hcall := mine_clo base g P rs os l0[kk] wr (HS.out.below HB.out) hcelp
      clear hrd hcelp
      generalize hx : l0[kk] = x at h0 h1 h2 hcall
      have X := Aside0.mk hx
      clear hx
      cases hq : (has33 os x.f0).2 with
      | false =>
        rw [hq] at hcall
        go_wp2_with (go_at_call 32; refine hcall.mono ?_; rintro e w' ⟨rfl, hb'⟩)
        go_roundg (l0.length - (kk + 1))
        case measure => omega
        case rel =>
          refine ⟨kk + 1, by omega, by omega, by go_num, ⟨below_step HB.out hb'⟩, ⟨fun j hj hl => ?_⟩⟩
          by_cases e : j = kk
          · subst e
            rw [X.out]; exact hq
          · exact A.out j (by omega) hl
      | true =>
        rw [hq] at hcall
        go_wp2_with (go_at_call 32; refine hcall.mono ?_; rintro e w' ⟨rfl, hb'⟩)
        go_ret
        refine ⟨?_, below_step HB.out hb'⟩
        rw [mineIdx_hit os l0 kk hlt (by rw [X.out]; exact hq) (fun j hj => A.out j hj (by omega))]; rfl
    · have hltz : ¬ (kk : Int) < (l0.length : Int) := by omega
      have : kk = l0.length := by omega
      subst this
      go_wp2
      go_ret
      refine ⟨?_, HB.out⟩
      rw [mineIdx_miss os l0 (fun j hj => A.out j hj hj)]; rfl

end Go.Proofs.Ytfiniikeoemleaa.R
