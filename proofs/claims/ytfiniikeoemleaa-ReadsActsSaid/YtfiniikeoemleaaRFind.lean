/- Where what is of an object lies: the place, or -1. No condition but the row. Printed by wip/dev/gen12a.py. -/
import Derived.Test.YtfiniikeoemleaaRFrame
import Derived.Outline
import Derived.Test.YtfiniikeoemleaaRSwap
namespace Go.Proofs.Ytfiniikeoemleaa.R
open Go Go.RowKit Go.Proofs.YtfiniikeoemleaaW.PrintWords Go.Proofs.YtfiniikeoemleaaW.PrintLast Go.Proofs.YtfiniikeoemleaaW.PrintMore
attribute [local go_sem] max2_int min2_int max_two min_two max_three min_three max_four min_four
set_option linter.unusedVariables false
set_option linter.unusedSimpArgs false

/-! ### type 30 -/
def find30 (l : List S30) (o : Int) : Int := match l.findIdx? (fun x => x.f0 == o) with | some i => (i : Int) | none => -1
theorem find30_hit (o : Int) (l : List S30) (k : Nat) (hk : k < l.length) (h : l[k].f0 = o) (hb : ∀ j (hj : j < k), (l[j]'(by omega)).f0 ≠ o) : find30 l o = k := by
  have : l.findIdx? (fun x => x.f0 == o) = some k := by
    rw [List.findIdx?_eq_some_iff_getElem]
    exact ⟨hk, by simp [h], fun j hj => by simp [hb j hj]⟩
  simp [find30, this]
theorem find30_miss (o : Int) (l : List S30) (hb : ∀ j (hj : j < l.length), (l[j]'(by omega)).f0 ≠ o) : find30 l o = -1 := by
  have : l.findIdx? (fun x => x.f0 == o) = none := by
    rw [List.findIdx?_eq_none_iff]
    intro x hx
    obtain ⟨i, hi, rfl⟩ := List.getElem_of_mem hx
    simp [hb i hi]
  simp [find30, this]
theorem find30_cases (l : List S30) (o : Int) : (find30 l o = -1 ∧ ∀ x ∈ l, x.f0 ≠ o) ∨ ∃ (k : Nat) (hk : k < l.length), find30 l o = k ∧ (l[k]).f0 = o ∧ ∀ j (hj : j < k), (l[j]'(by omega)).f0 ≠ o := by
  unfold find30
  split
  · rename_i i h
    rw [List.findIdx?_eq_some_iff_getElem] at h
    obtain ⟨hi, h1, h2⟩ := h
    exact Or.inr ⟨i, hi, rfl, by simpa using h1, fun j hj => by simpa using h2 j hj⟩
  · rename_i h
    rw [List.findIdx?_eq_none_iff] at h
    exact Or.inl ⟨rfl, fun x hx => by simpa using h x hx⟩

set_option maxHeartbeats 8000000 in
theorem obj30_calls (x : S30) (w : World) :
    Calls Try.prog 26 #[.agg #[.int .i64 x.f0, .int .i64 x.f1, .int .i64 x.f2]] w fun e w' => e = .returned (.int .i64 x.f0) ∧ Below w.heap.size w w' := by
  have hu := Try.underlying30
  have HB := (Below.refl w.heap.size w).alloc (Nat.le_refl _) (.cells #[.int .i64 x.f0, .int .i64 x.f1, .int .i64 x.f2] 30)
  go_enter Try.func26, Try.ntmps26
  go_wp2
  go_ret
  exact ⟨rfl, HB⟩

set_option maxHeartbeats 8000000 in
theorem clo30_calls (x : S30) (o : Int) (F B : Nat) (w : World) (hf : w.cell? ⟨F, 0, none⟩ = some (.func (.func 26) #[] #[])) (hc : w.cell? ⟨B, 0, none⟩ = some (.int .i64 o)) :
    Calls Try.prog 35 #[.agg #[.int .i64 x.f0, .int .i64 x.f1, .int .i64 x.f2], .pointer (some ⟨F, 0, none⟩), .pointer (some ⟨B, 0, none⟩)] w fun e w' => e = .returned (.bool (x.f0 == o)) ∧ Below w.heap.size w w' := by
  have hu := Try.underlying30
  have HB := Aside0.mk (Below.refl w.heap.size w)
  have HF := Aside0.mk hf
  have HC := Aside0.mk hc
  clear hf hc
  go_enter Try.func35, Try.ntmps35
  go_upto_region 1 with (first | ((with_reducible refine gate_dst (N := 3) rfl ?_); refine box_event ?hg (N := 3) ?hd (cs := #[.int .i64 x.f0, .int .i64 x.f1, .int .i64 x.f2]) (t := 30) ?hr ?_; (case hd => rfl); (case hg => rfl); (case hr => first | (go_simp; done) | (go_simp; rfl)); intro gb hg w1 hbox hb; have n_HB := Aside0.mk (below_step HB.out hb); have n_HF := Aside0.mk ((hb.cell (World.block_lt_of_cell? _ _ HF.out)).trans HF.out); have n_HC := Aside0.mk ((hb.cell (World.block_lt_of_cell? _ _ HC.out)).trans HC.out); have n_BK := Aside0.mk (hbox); clear HB HF HC; have HB := n_HB; clear n_HB; have HF := n_HF; clear n_HF; have HC := n_HC; clear n_HC; have BK := n_BK; clear n_BK; clear hbox hb; (try clear hg)))
  have n_HB := Aside0.mk (below_drew1 HB.out); have n_HF := Aside0.mk (cell_drew HF.out); have n_HC := Aside0.mk (cell_drew HC.out); have n_BK := Aside0.mk (blk_drew BK.out); clear HB HF HC BK; have HB := n_HB; clear n_HB; have HF := n_HF; clear n_HF; have HC := n_HC; clear n_HC; have BK := n_BK; clear n_BK
  refine start_ (n := 6) (S := fun w' => Below w1.drew.heap.size w1.drew w') (ds := []) #[false, false, false, false, false, false] (by kernel_rfl) rfl rfl (Below.refl _ _) (fun hHeld => ?_)
  generalize w1.drew = wR at HB HF HC BK hHeld ⊢
  refine take_ (i := 0) (N := some 5) (v := ?_) (a' := ?_) #[true, false, false, false, false, false] rfl rfl (by kernel_rfl) (fun _ _ _ h => h) (Or.inl ⟨by rfl, ?_⟩) hHeld ?_ ?_
  rotate_left
  · intro w' s0
    have hq := (s0.cell (World.block_lt_of_cell? _ _ HF.out)).trans HF.out
    go_simp
    with_reducible rfl
  rotate_left
  · (try simp only [Act.put, List.setIfInBounds_toArray, List.set_cons_zero, List.set_cons_succ, i64_w, i32_w])
    rfl
  refine take_ (i := 1) (N := some 6) (v := ?_) (a' := ?_) #[true, true, false, false, false, false] rfl rfl (by kernel_rfl) (fun _ _ _ h => h) (Or.inl ⟨by rfl, ?_⟩) hHeld ?_ ?_
  rotate_left
  · intro w' s0
    have q0 : World.cell? w' ⟨gb, 0, none⟩ = some (.int .i64 x.f0) := (blk_cell (blk_below BK.out s0) 0).trans rfl
    have q1 : World.cell? w' ⟨gb, 1, none⟩ = some (.int .i64 x.f1) := (blk_cell (blk_below BK.out s0) 1).trans rfl
    have q2 : World.cell? w' ⟨gb, 2, none⟩ = some (.int .i64 x.f2) := (blk_cell (blk_below BK.out s0) 2).trans rfl
    go_simp
    with_reducible rfl
  rotate_left
  · (try simp only [Act.put, List.setIfInBounds_toArray, List.set_cons_zero, List.set_cons_succ, i64_w, i32_w])
    rfl
  refine take_ (i := 3) (N := some 8) (v := ?_) (a' := ?_) #[true, true, false, true, false, false] rfl rfl (by kernel_rfl) (fun _ _ _ h => h) (Or.inl ⟨by rfl, ?_⟩) hHeld ?_ ?_
  rotate_left
  · intro w' s0
    have hq := (s0.cell (World.block_lt_of_cell? _ _ HC.out)).trans HC.out
    go_simp
    with_reducible rfl
  rotate_left
  · (try simp only [Act.put, List.setIfInBounds_toArray, List.set_cons_zero, List.set_cons_succ, i64_w, i32_w])
    rfl
  refine one_ (i := 2) (N := (some 7)) #[true, true, true, true, false, false] rfl rfl (by kernel_rfl) (by decide) (fun K hK => ?_)
  refine call_ 26 #[.agg #[.int .i64 x.f0, .int .i64 x.f1, .int .i64 x.f2]] (by rfl) rfl (by have he := enters_ (P := Try.prog) Try.func26 (by kernel_rfl) rfl #[.agg #[.int .i64 x.f0, .int .i64 x.f1, .int .i64 x.f2]] wR; unfold execOp; simp [resolve, Deferred.ofValue, invoke, Act.eval, he]) ?_
  refine (obj30_calls x _).mono ?_
  rintro e w2 ⟨rfl, hb⟩
  refine ⟨_, rfl, ?_⟩
  have hh := below_step hHeld hb; clear hHeld; have hHeld := hh; clear hh
  have n_HB := Aside0.mk (below_step HB.out hb); have n_HF := Aside0.mk ((hb.cell (World.block_lt_of_cell? _ _ HF.out)).trans HF.out); have n_HC := Aside0.mk ((hb.cell (World.block_lt_of_cell? _ _ HC.out)).trans HC.out); have n_BK := Aside0.mk (blk_below BK.out hb); clear HB HF HC BK; have HB := n_HB; clear n_HB; have HF := n_HF; clear n_HF; have HC := n_HC; clear n_HC; have BK := n_BK; clear n_BK
  clear hb
  refine hK.out _ _ hHeld (fun _ => ?_)
  clear hK K
  refine norm_ (a' := ?_) ?_ ?_
  rotate_left
  · show Act.put _ (some 7) _ = _
    (try simp only [Act.put, List.setIfInBounds_toArray, List.set_cons_zero, List.set_cons_succ, i64_w, i32_w])
    rfl
  refine pure_ (i := 4) (N := (some 9)) (v := ?_) (a' := ?_) #[true, true, true, true, true, false] rfl rfl (by kernel_rfl) (fun _ _ _ h => h) (Or.inl ⟨by rfl, ?_⟩) ?_ ?_
  rotate_left
  · intro w'
    go_simp
    with_reducible rfl
  rotate_left
  · (try simp only [Act.put, List.setIfInBounds_toArray, List.set_cons_zero, List.set_cons_succ, i64_w, i32_w])
    rfl
  refine pure_ (i := 5) (N := (some 4)) (v := ?_) (a' := ?_) #[true, true, true, true, true, true] rfl rfl (by kernel_rfl) (fun _ _ _ h => h) (Or.inl ⟨by rfl, ?_⟩) ?_ ?_
  rotate_left
  · intro w'
    go_simp
    with_reducible rfl
  rotate_left
  · (try simp only [Act.put, List.setIfInBounds_toArray, List.set_cons_zero, List.set_cons_succ, i64_w, i32_w])
    rfl
  refine done_ (by kernel_rfl) ?_
  try go_wp2
  go_ret
  exact ⟨rfl, HB.out⟩

set_option maxHeartbeats 8000000 in
theorem idx30_calls (A0 : Option Addr) (c0 : Nat) (l0 : List S30) (o : Int) (F B : Nat) (w : World) (hr0 : Kd.C k30 w A0 l0.length l0) (hf : w.cell? ⟨F, 0, none⟩ = some (.func (.func 26) #[] #[])) (hc : w.cell? ⟨B, 0, none⟩ = some (.int .i64 o)) :
    Calls Try.prog 34 #[.slice A0 l0.length c0, .func (.func 35) #[] #[.pointer (some ⟨F, 0, none⟩), .pointer (some ⟨B, 0, none⟩)]] w fun e w' => e = .returned (.int .i64 (find30 l0 o)) ∧ Below w.heap.size w w' := by
  have hu30 := Try.underlying30
  have hmax : l0.length ≤ 9223372036854775807 := Kd.C_max hr0
  have HR := Aside0.mk hr0
  have HC := Aside0.mk hc
  have HF := Aside0.mk hf
  clear hr0 hc hf
  go_enter Try.func34, Try.ntmps34
  go_wp2
  go_loopg [5, 8] l0.length (fun gg _ s8 wr => ∃ kk : Nat, kk ≤ l0.length ∧ l0.length - kk ≤ gg ∧ s8 = .int .i64 kk ∧ Aside0 (Below w.heap.size w wr) ∧ Aside0 (∀ j (hj : j < kk) (hl : j < l0.length), l0[j].f0 ≠ o))
  case atStart => exact ⟨0, Nat.zero_le _, by omega, rfl, ⟨Below.refl _ w⟩, ⟨fun j hj => absurd hj (Nat.not_lt_zero _)⟩⟩
  case round =>
    obtain ⟨kk, hkk, hg, rfl, HB, A⟩ := hrel
    by_cases hlt : kk < l0.length
    · have hltz : (kk : Int) < (l0.length : Int) := by omega
      obtain ⟨ad, ea, h0, h1, h2⟩ := at_T30 HR.out (kk : Int) (by omega) (by omega)
      subst ea
      replace h0 := (HB.out.cell (World.block_lt_of_cell? w _ h0)).trans h0
      replace h1 := (HB.out.cell (World.block_lt_of_cell? w _ h1)).trans h1
      replace h2 := (HB.out.cell (World.block_lt_of_cell? w _ h2)).trans h2
      have hcell := (HB.out.cell (World.block_lt_of_cell? w _ HC.out)).trans HC.out
      have hcelf := (HB.out.cell (World.block_lt_of_cell? w _ HF.out)).trans HF.out
      have hrd : rd_T30 l0 (kk : Int) = l0[kk] := by simp [rd_T30, hlt]
      rw [hrd] at h0 h1 h2
      simp only [Int.toNat_natCast] at h0 h1 h2
      have hcall := clo30_calls l0[kk] o F B wr hcelf hcell
      clear hrd
      generalize hx : l0[kk] = x at h0 h1 h2 hcall
      have X := Aside0.mk hx
      clear hx
      cases hq : (x.f0 == o) with
      | false =>
        rw [hq] at hcall
        go_wp2_with (go_at_call 35; refine hcall.mono ?_; rintro e w' ⟨rfl, hb'⟩)
        go_roundg (l0.length - (kk + 1))
        case measure => omega
        case rel =>
          refine ⟨kk + 1, by omega, by omega, by go_num, ⟨below_step HB.out hb'⟩, ⟨fun j hj hl => ?_⟩⟩
          by_cases e : j = kk
          · subst e
            rw [X.out]; simpa using hq
          · exact A.out j (by omega) hl
      | true =>
        rw [hq] at hcall
        go_wp2_with (go_at_call 35; refine hcall.mono ?_; rintro e w' ⟨rfl, hb'⟩)
        go_ret
        refine ⟨?_, below_step HB.out hb'⟩
        rw [find30_hit o l0 kk hlt (by rw [X.out]; simpa using hq) (fun j hj => A.out j hj (by omega))]; rfl
    · have hltz : ¬ (kk : Int) < (l0.length : Int) := by omega
      have : kk = l0.length := by omega
      subst this
      go_wp2
      go_ret
      refine ⟨?_, HB.out⟩
      rw [find30_miss o l0 (fun j hj => A.out j hj hj)]; rfl

set_option maxHeartbeats 8000000 in
theorem find30_calls (A0 : Option Addr) (c0 : Nat) (l0 : List S30) (o : Int) (w : World) (hr0 : Kd.C k30 w A0 l0.length l0) :
    Calls Try.prog 25 #[.slice A0 l0.length c0, .func (.func 26) #[] #[], .int .i64 o] w fun e w' => e = .returned (.int .i64 (find30 l0 o)) ∧ Below w.heap.size w w' := by
  have HB := Aside0.mk (Below.refl w.heap.size w)
  have HR := Aside0.mk hr0
  clear hr0
  go_enter Try.func25, Try.ntmps25
  go_wp2_with (first | ((with_reducible refine gate_dst (N := 4) rfl ?_); refine box_event ?hg (N := 4) ?hd (cs := #[.func (.func 26) #[] #[]]) (t := 66) ?hr ?_; (case hd => rfl); (case hg => rfl); (case hr => first | (go_simp; done) | (go_simp; rfl)); intro gf hg w1 hbox hb; have n_HB := Aside0.mk (below_step HB.out hb); have n_HR := Aside0.mk (Kd.C_below HR.out hb); have n_BF := Aside0.mk (hbox); clear HB HR; have HB := n_HB; clear n_HB; have HR := n_HR; clear n_HR; have BF := n_BF; clear n_BF; clear hbox hb; (try clear hg)) | ((with_reducible refine gate_dst (N := 5) rfl ?_); refine box_event ?hg (N := 5) ?hd (cs := #[.int .i64 o]) (t := 3) ?hr ?_; (case hd => rfl); (case hg => rfl); (case hr => first | (go_simp; done) | (go_simp; rfl)); intro gb hg w2 hbox hb; have n_HB := Aside0.mk (below_step HB.out hb); have n_HR := Aside0.mk (Kd.C_below HR.out hb); have n_BF := Aside0.mk (blk_below BF.out hb); have n_BK := Aside0.mk (hbox); clear HB HR BF; have HB := n_HB; clear n_HB; have HR := n_HR; clear n_HR; have BF := n_BF; clear n_BF; have BK := n_BK; clear n_BK; clear hbox hb; (try clear hg)) | ((with_reducible refine gate_callee (f := 34) rfl ?_); refine goesL_ (some 9) rfl rfl Try.func34 (by kernel_rfl) rfl #[.slice A0 l0.length c0, .func (.func 35) #[] #[.pointer (some ⟨gf, 0, none⟩), .pointer (some ⟨gb, 0, none⟩)]] rfl (by (try simp only [List.map_toArray, List.map_cons, List.map_nil]); first | done | rfl | (simp only [List.length_drop, List.length_take]; rfl)) ?_; (refine (idx30_calls A0 c0 l0 o gf gb _ HR.out ((blk_cell BF.out 0).trans rfl) ((blk_cell BK.out 0).trans rfl)).mono ?_); rintro e w3 ⟨rfl, hb⟩; refine ⟨_, rfl, ?_⟩; have n_HB := Aside0.mk (below_step HB.out hb); have n_HR := Aside0.mk (Kd.C_below HR.out hb); have n_BF := Aside0.mk (blk_below BF.out hb); have n_BK := Aside0.mk (blk_below BK.out hb); clear HB HR BF BK; have HB := n_HB; clear n_HB; have HR := n_HR; clear n_HR; have BF := n_BF; clear n_BF; have BK := n_BK; clear n_BK; clear hb))
  go_ret
  exact ⟨rfl, HB.out⟩

/-! ### type 33 -/
def find33 (l : List S33) (o : Int) : Int := match l.findIdx? (fun x => x.f0 == o) with | some i => (i : Int) | none => -1
theorem find33_hit (o : Int) (l : List S33) (k : Nat) (hk : k < l.length) (h : l[k].f0 = o) (hb : ∀ j (hj : j < k), (l[j]'(by omega)).f0 ≠ o) : find33 l o = k := by
  have : l.findIdx? (fun x => x.f0 == o) = some k := by
    rw [List.findIdx?_eq_some_iff_getElem]
    exact ⟨hk, by simp [h], fun j hj => by simp [hb j hj]⟩
  simp [find33, this]
theorem find33_miss (o : Int) (l : List S33) (hb : ∀ j (hj : j < l.length), (l[j]'(by omega)).f0 ≠ o) : find33 l o = -1 := by
  have : l.findIdx? (fun x => x.f0 == o) = none := by
    rw [List.findIdx?_eq_none_iff]
    intro x hx
    obtain ⟨i, hi, rfl⟩ := List.getElem_of_mem hx
    simp [hb i hi]
  simp [find33, this]
theorem find33_cases (l : List S33) (o : Int) : (find33 l o = -1 ∧ ∀ x ∈ l, x.f0 ≠ o) ∨ ∃ (k : Nat) (hk : k < l.length), find33 l o = k ∧ (l[k]).f0 = o ∧ ∀ j (hj : j < k), (l[j]'(by omega)).f0 ≠ o := by
  unfold find33
  split
  · rename_i i h
    rw [List.findIdx?_eq_some_iff_getElem] at h
    obtain ⟨hi, h1, h2⟩ := h
    exact Or.inr ⟨i, hi, rfl, by simpa using h1, fun j hj => by simpa using h2 j hj⟩
  · rename_i h
    rw [List.findIdx?_eq_none_iff] at h
    exact Or.inl ⟨rfl, fun x hx => by simpa using h x hx⟩

set_option maxHeartbeats 8000000 in
theorem obj33_calls (x : S33) (w : World) :
    Calls Try.prog 28 #[.agg #[.int .i64 x.f0, .int .i64 x.f1, .int .i64 x.f2, .int .i64 x.f3, .bool x.f4]] w fun e w' => e = .returned (.int .i64 x.f0) ∧ Below w.heap.size w w' := by
  have hu := Try.underlying33
  have HB := (Below.refl w.heap.size w).alloc (Nat.le_refl _) (.cells #[.int .i64 x.f0, .int .i64 x.f1, .int .i64 x.f2, .int .i64 x.f3, .bool x.f4] 33)
  go_enter Try.func28, Try.ntmps28
  go_wp2
  go_ret
  exact ⟨rfl, HB⟩

set_option maxHeartbeats 8000000 in
theorem clo33_calls (x : S33) (o : Int) (F B : Nat) (w : World) (hf : w.cell? ⟨F, 0, none⟩ = some (.func (.func 28) #[] #[])) (hc : w.cell? ⟨B, 0, none⟩ = some (.int .i64 o)) :
    Calls Try.prog 37 #[.agg #[.int .i64 x.f0, .int .i64 x.f1, .int .i64 x.f2, .int .i64 x.f3, .bool x.f4], .pointer (some ⟨F, 0, none⟩), .pointer (some ⟨B, 0, none⟩)] w fun e w' => e = .returned (.bool (x.f0 == o)) ∧ Below w.heap.size w w' := by
  have hu := Try.underlying33
  have HB := Aside0.mk (Below.refl w.heap.size w)
  have HF := Aside0.mk hf
  have HC := Aside0.mk hc
  clear hf hc
  go_enter Try.func37, Try.ntmps37
  go_upto_region 1 with (first | ((with_reducible refine gate_dst (N := 3) rfl ?_); refine box_event ?hg (N := 3) ?hd (cs := #[.int .i64 x.f0, .int .i64 x.f1, .int .i64 x.f2, .int .i64 x.f3, .bool x.f4]) (t := 33) ?hr ?_; (case hd => rfl); (case hg => rfl); (case hr => first | (go_simp; done) | (go_simp; rfl)); intro gb hg w1 hbox hb; have n_HB := Aside0.mk (below_step HB.out hb); have n_HF := Aside0.mk ((hb.cell (World.block_lt_of_cell? _ _ HF.out)).trans HF.out); have n_HC := Aside0.mk ((hb.cell (World.block_lt_of_cell? _ _ HC.out)).trans HC.out); have n_BK := Aside0.mk (hbox); clear HB HF HC; have HB := n_HB; clear n_HB; have HF := n_HF; clear n_HF; have HC := n_HC; clear n_HC; have BK := n_BK; clear n_BK; clear hbox hb; (try clear hg)))
  have n_HB := Aside0.mk (below_drew1 HB.out); have n_HF := Aside0.mk (cell_drew HF.out); have n_HC := Aside0.mk (cell_drew HC.out); have n_BK := Aside0.mk (blk_drew BK.out); clear HB HF HC BK; have HB := n_HB; clear n_HB; have HF := n_HF; clear n_HF; have HC := n_HC; clear n_HC; have BK := n_BK; clear n_BK
  refine start_ (n := 6) (S := fun w' => Below w1.drew.heap.size w1.drew w') (ds := []) #[false, false, false, false, false, false] (by kernel_rfl) rfl rfl (Below.refl _ _) (fun hHeld => ?_)
  generalize w1.drew = wR at HB HF HC BK hHeld ⊢
  refine take_ (i := 0) (N := some 5) (v := ?_) (a' := ?_) #[true, false, false, false, false, false] rfl rfl (by kernel_rfl) (fun _ _ _ h => h) (Or.inl ⟨by rfl, ?_⟩) hHeld ?_ ?_
  rotate_left
  · intro w' s0
    have hq := (s0.cell (World.block_lt_of_cell? _ _ HF.out)).trans HF.out
    go_simp
    with_reducible rfl
  rotate_left
  · (try simp only [Act.put, List.setIfInBounds_toArray, List.set_cons_zero, List.set_cons_succ, i64_w, i32_w])
    rfl
  refine take_ (i := 1) (N := some 6) (v := ?_) (a' := ?_) #[true, true, false, false, false, false] rfl rfl (by kernel_rfl) (fun _ _ _ h => h) (Or.inl ⟨by rfl, ?_⟩) hHeld ?_ ?_
  rotate_left
  · intro w' s0
    have q0 : World.cell? w' ⟨gb, 0, none⟩ = some (.int .i64 x.f0) := (blk_cell (blk_below BK.out s0) 0).trans rfl
    have q1 : World.cell? w' ⟨gb, 1, none⟩ = some (.int .i64 x.f1) := (blk_cell (blk_below BK.out s0) 1).trans rfl
    have q2 : World.cell? w' ⟨gb, 2, none⟩ = some (.int .i64 x.f2) := (blk_cell (blk_below BK.out s0) 2).trans rfl
    have q3 : World.cell? w' ⟨gb, 3, none⟩ = some (.int .i64 x.f3) := (blk_cell (blk_below BK.out s0) 3).trans rfl
    have q4 : World.cell? w' ⟨gb, 4, none⟩ = some (.bool x.f4) := (blk_cell (blk_below BK.out s0) 4).trans rfl
    go_simp
    with_reducible rfl
  rotate_left
  · (try simp only [Act.put, List.setIfInBounds_toArray, List.set_cons_zero, List.set_cons_succ, i64_w, i32_w])
    rfl
  refine take_ (i := 3) (N := some 8) (v := ?_) (a' := ?_) #[true, true, false, true, false, false] rfl rfl (by kernel_rfl) (fun _ _ _ h => h) (Or.inl ⟨by rfl, ?_⟩) hHeld ?_ ?_
  rotate_left
  · intro w' s0
    have hq := (s0.cell (World.block_lt_of_cell? _ _ HC.out)).trans HC.out
    go_simp
    with_reducible rfl
  rotate_left
  · (try simp only [Act.put, List.setIfInBounds_toArray, List.set_cons_zero, List.set_cons_succ, i64_w, i32_w])
    rfl
  refine one_ (i := 2) (N := (some 7)) #[true, true, true, true, false, false] rfl rfl (by kernel_rfl) (by decide) (fun K hK => ?_)
  refine call_ 28 #[.agg #[.int .i64 x.f0, .int .i64 x.f1, .int .i64 x.f2, .int .i64 x.f3, .bool x.f4]] (by rfl) rfl (by have he := enters_ (P := Try.prog) Try.func28 (by kernel_rfl) rfl #[.agg #[.int .i64 x.f0, .int .i64 x.f1, .int .i64 x.f2, .int .i64 x.f3, .bool x.f4]] wR; unfold execOp; simp [resolve, Deferred.ofValue, invoke, Act.eval, he]) ?_
  refine (obj33_calls x _).mono ?_
  rintro e w2 ⟨rfl, hb⟩
  refine ⟨_, rfl, ?_⟩
  have hh := below_step hHeld hb; clear hHeld; have hHeld := hh; clear hh
  have n_HB := Aside0.mk (below_step HB.out hb); have n_HF := Aside0.mk ((hb.cell (World.block_lt_of_cell? _ _ HF.out)).trans HF.out); have n_HC := Aside0.mk ((hb.cell (World.block_lt_of_cell? _ _ HC.out)).trans HC.out); have n_BK := Aside0.mk (blk_below BK.out hb); clear HB HF HC BK; have HB := n_HB; clear n_HB; have HF := n_HF; clear n_HF; have HC := n_HC; clear n_HC; have BK := n_BK; clear n_BK
  clear hb
  refine hK.out _ _ hHeld (fun _ => ?_)
  clear hK K
  refine norm_ (a' := ?_) ?_ ?_
  rotate_left
  · show Act.put _ (some 7) _ = _
    (try simp only [Act.put, List.setIfInBounds_toArray, List.set_cons_zero, List.set_cons_succ, i64_w, i32_w])
    rfl
  refine pure_ (i := 4) (N := (some 9)) (v := ?_) (a' := ?_) #[true, true, true, true, true, false] rfl rfl (by kernel_rfl) (fun _ _ _ h => h) (Or.inl ⟨by rfl, ?_⟩) ?_ ?_
  rotate_left
  · intro w'
    go_simp
    with_reducible rfl
  rotate_left
  · (try simp only [Act.put, List.setIfInBounds_toArray, List.set_cons_zero, List.set_cons_succ, i64_w, i32_w])
    rfl
  refine pure_ (i := 5) (N := (some 4)) (v := ?_) (a' := ?_) #[true, true, true, true, true, true] rfl rfl (by kernel_rfl) (fun _ _ _ h => h) (Or.inl ⟨by rfl, ?_⟩) ?_ ?_
  rotate_left
  · intro w'
    go_simp
    with_reducible rfl
  rotate_left
  · (try simp only [Act.put, List.setIfInBounds_toArray, List.set_cons_zero, List.set_cons_succ, i64_w, i32_w])
    rfl
  refine done_ (by kernel_rfl) ?_
  try go_wp2
  go_ret
  exact ⟨rfl, HB.out⟩

set_option maxHeartbeats 8000000 in
theorem idx33_calls (A0 : Option Addr) (c0 : Nat) (l0 : List S33) (o : Int) (F B : Nat) (w : World) (hr0 : Kd.C k33 w A0 l0.length l0) (hf : w.cell? ⟨F, 0, none⟩ = some (.func (.func 28) #[] #[])) (hc : w.cell? ⟨B, 0, none⟩ = some (.int .i64 o)) :
    Calls Try.prog 36 #[.slice A0 l0.length c0, .func (.func 37) #[] #[.pointer (some ⟨F, 0, none⟩), .pointer (some ⟨B, 0, none⟩)]] w fun e w' => e = .returned (.int .i64 (find33 l0 o)) ∧ Below w.heap.size w w' := by
  have hu33 := Try.underlying33
  have hmax : l0.length ≤ 9223372036854775807 := Kd.C_max hr0
  have HR := Aside0.mk hr0
  have HC := Aside0.mk hc
  have HF := Aside0.mk hf
  clear hr0 hc hf
  go_enter Try.func36, Try.ntmps36
  go_wp2
  go_loopg [5, 8] l0.length (fun gg _ s8 wr => ∃ kk : Nat, kk ≤ l0.length ∧ l0.length - kk ≤ gg ∧ s8 = .int .i64 kk ∧ Aside0 (Below w.heap.size w wr) ∧ Aside0 (∀ j (hj : j < kk) (hl : j < l0.length), l0[j].f0 ≠ o))
  case atStart => exact ⟨0, Nat.zero_le _, by omega, rfl, ⟨Below.refl _ w⟩, ⟨fun j hj => absurd hj (Nat.not_lt_zero _)⟩⟩
  case round =>
    obtain ⟨kk, hkk, hg, rfl, HB, A⟩ := hrel
    by_cases hlt : kk < l0.length
    · have hltz : (kk : Int) < (l0.length : Int) := by omega
      obtain ⟨ad, ea, h0, h1, h2, h3, h4⟩ := at_T33 HR.out (kk : Int) (by omega) (by omega)
      subst ea
      replace h0 := (HB.out.cell (World.block_lt_of_cell? w _ h0)).trans h0
      replace h1 := (HB.out.cell (World.block_lt_of_cell? w _ h1)).trans h1
      replace h2 := (HB.out.cell (World.block_lt_of_cell? w _ h2)).trans h2
      replace h3 := (HB.out.cell (World.block_lt_of_cell? w _ h3)).trans h3
      replace h4 := (HB.out.cell (World.block_lt_of_cell? w _ h4)).trans h4
      have hcell := (HB.out.cell (World.block_lt_of_cell? w _ HC.out)).trans HC.out
      have hcelf := (HB.out.cell (World.block_lt_of_cell? w _ HF.out)).trans HF.out
      have hrd : rd_T33 l0 (kk : Int) = l0[kk] := by simp [rd_T33, hlt]
      rw [hrd] at h0 h1 h2 h3 h4
      simp only [Int.toNat_natCast] at h0 h1 h2 h3 h4
      have hcall := clo33_calls l0[kk] o F B wr hcelf hcell
      clear hrd
      generalize hx : l0[kk] = x at h0 h1 h2 h3 h4 hcall
      have X := Aside0.mk hx
      clear hx
      cases hq : (x.f0 == o) with
      | false =>
        rw [hq] at hcall
        go_wp2_with (go_at_call 37; refine hcall.mono ?_; rintro e w' ⟨rfl, hb'⟩)
        go_roundg (l0.length - (kk + 1))
        case measure => omega
        case rel =>
          refine ⟨kk + 1, by omega, by omega, by go_num, ⟨below_step HB.out hb'⟩, ⟨fun j hj hl => ?_⟩⟩
          by_cases e : j = kk
          · subst e
            rw [X.out]; simpa using hq
          · exact A.out j (by omega) hl
      | true =>
        rw [hq] at hcall
        go_wp2_with (go_at_call 37; refine hcall.mono ?_; rintro e w' ⟨rfl, hb'⟩)
        go_ret
        refine ⟨?_, below_step HB.out hb'⟩
        rw [find33_hit o l0 kk hlt (by rw [X.out]; simpa using hq) (fun j hj => A.out j hj (by omega))]; rfl
    · have hltz : ¬ (kk : Int) < (l0.length : Int) := by omega
      have : kk = l0.length := by omega
      subst this
      go_wp2
      go_ret
      refine ⟨?_, HB.out⟩
      rw [find33_miss o l0 (fun j hj => A.out j hj hj)]; rfl

set_option maxHeartbeats 8000000 in
theorem find33_calls (A0 : Option Addr) (c0 : Nat) (l0 : List S33) (o : Int) (w : World) (hr0 : Kd.C k33 w A0 l0.length l0) :
    Calls Try.prog 27 #[.slice A0 l0.length c0, .func (.func 28) #[] #[], .int .i64 o] w fun e w' => e = .returned (.int .i64 (find33 l0 o)) ∧ Below w.heap.size w w' := by
  have HB := Aside0.mk (Below.refl w.heap.size w)
  have HR := Aside0.mk hr0
  clear hr0
  go_enter Try.func27, Try.ntmps27
  go_wp2_with (first | ((with_reducible refine gate_dst (N := 4) rfl ?_); refine box_event ?hg (N := 4) ?hd (cs := #[.func (.func 28) #[] #[]]) (t := 69) ?hr ?_; (case hd => rfl); (case hg => rfl); (case hr => first | (go_simp; done) | (go_simp; rfl)); intro gf hg w1 hbox hb; have n_HB := Aside0.mk (below_step HB.out hb); have n_HR := Aside0.mk (Kd.C_below HR.out hb); have n_BF := Aside0.mk (hbox); clear HB HR; have HB := n_HB; clear n_HB; have HR := n_HR; clear n_HR; have BF := n_BF; clear n_BF; clear hbox hb; (try clear hg)) | ((with_reducible refine gate_dst (N := 5) rfl ?_); refine box_event ?hg (N := 5) ?hd (cs := #[.int .i64 o]) (t := 3) ?hr ?_; (case hd => rfl); (case hg => rfl); (case hr => first | (go_simp; done) | (go_simp; rfl)); intro gb hg w2 hbox hb; have n_HB := Aside0.mk (below_step HB.out hb); have n_HR := Aside0.mk (Kd.C_below HR.out hb); have n_BF := Aside0.mk (blk_below BF.out hb); have n_BK := Aside0.mk (hbox); clear HB HR BF; have HB := n_HB; clear n_HB; have HR := n_HR; clear n_HR; have BF := n_BF; clear n_BF; have BK := n_BK; clear n_BK; clear hbox hb; (try clear hg)) | ((with_reducible refine gate_callee (f := 36) rfl ?_); refine goesL_ (some 9) rfl rfl Try.func36 (by kernel_rfl) rfl #[.slice A0 l0.length c0, .func (.func 37) #[] #[.pointer (some ⟨gf, 0, none⟩), .pointer (some ⟨gb, 0, none⟩)]] rfl (by (try simp only [List.map_toArray, List.map_cons, List.map_nil]); first | done | rfl | (simp only [List.length_drop, List.length_take]; rfl)) ?_; (refine (idx33_calls A0 c0 l0 o gf gb _ HR.out ((blk_cell BF.out 0).trans rfl) ((blk_cell BK.out 0).trans rfl)).mono ?_); rintro e w3 ⟨rfl, hb⟩; refine ⟨_, rfl, ?_⟩; have n_HB := Aside0.mk (below_step HB.out hb); have n_HR := Aside0.mk (Kd.C_below HR.out hb); have n_BF := Aside0.mk (blk_below BF.out hb); have n_BK := Aside0.mk (blk_below BK.out hb); clear HB HR BF BK; have HB := n_HB; clear n_HB; have HR := n_HR; clear n_HR; have BF := n_BF; clear n_BF; have BK := n_BK; clear n_BK; clear hb))
  go_ret
  exact ⟨rfl, HB.out⟩

end Go.Proofs.Ytfiniikeoemleaa.R
