/- The document's set, and where an object's reading or own one lies. No condition but the state. Printed by wip/dev/gen12o.py. -/
import Derived.Test.YtfiniikeoemleaaRRow
import Derived.Test.YtfiniikeoemleaaRSet
import Derived.BigQuiet
namespace Go.Proofs.Ytfiniikeoemleaa.R
open Go Go.RowKit Go.Proofs.YtfiniikeoemleaaW.PrintWords Go.Proofs.YtfiniikeoemleaaW.PrintLast Go.Proofs.YtfiniikeoemleaaW.PrintMore
attribute [local go_sem] max2_int min2_int max_two min_two max_three min_three max_four min_four
set_option linter.unusedVariables false
set_option linter.unusedSimpArgs false

/-- A document's set: two rows of its own behind its block. -/
def IsD (base : Nat) (w : World) (g : Nat) (rs : List S44) (os : List S45) : Prop :=
  ∃ vr vo, w.heap[g]? = some (.cells #[vr, vo] 43 (0, 0)) ∧ base ≤ g ∧ Kd.R k44 44 w base (fun _ => True) vr rs ∧ Kd.R k45 45 w base (fun _ => True) vo os
theorem IsD.below {base : Nat} {w w' : World} {g : Nat} {rs : List S44} {os : List S45} (h : IsD base w g rs os) (hb : Below w.heap.size w w') : IsD base w' g rs os := by
  obtain ⟨vr, vo, h1, h2, h3, h4⟩ := h
  exact ⟨vr, vo, blk_below h1 hb, h2, Kd.R_below h3 hb, Kd.R_below h4 hb⟩
theorem IsD.fr {base : Nat} {w w' : World} {ts : List Nat} {g : Nat} {rs : List S44} {os : List S45} (h : IsD base w g rs os) (hf : Fr ts w w') (h1 : 43 ∉ ts) (h2 : 44 ∉ ts) (h3 : 45 ∉ ts) : IsD base w' g rs os := by
  obtain ⟨vr, vo, a1, a2, a3, a4⟩ := h
  exact ⟨vr, vo, hf.blk a1 h1, a2, R_fr rfl a3 hf h2, R_fr rfl a4 hf h3⟩
theorem IsD.lower {base b' : Nat} {w : World} {g : Nat} {rs : List S44} {os : List S45} (h : IsD base w g rs os) (hb : b' ≤ base) : IsD b' w g rs os := by
  obtain ⟨vr, vo, h1, h2, h3, h4⟩ := h
  exact ⟨vr, vo, h1, Nat.le_trans hb h2, Kd.R_lower h3 hb, Kd.R_lower h4 hb⟩

/-! ### where, type 44 -/
def find44 (l : List S44) (o : Int) : Int := match l.findIdx? (fun x => x.f0 == o) with | some i => (i : Int) | none => -1
theorem find44_hit (o : Int) (l : List S44) (k : Nat) (hk : k < l.length) (h : l[k].f0 = o) (hb : ∀ j (hj : j < k), (l[j]'(by omega)).f0 ≠ o) : find44 l o = k := by
  have : l.findIdx? (fun x => x.f0 == o) = some k := by
    rw [List.findIdx?_eq_some_iff_getElem]
    exact ⟨hk, by simp [h], fun j hj => by simp [hb j hj]⟩
  simp [find44, this]
theorem find44_miss (o : Int) (l : List S44) (hb : ∀ j (hj : j < l.length), (l[j]'(by omega)).f0 ≠ o) : find44 l o = -1 := by
  have : l.findIdx? (fun x => x.f0 == o) = none := by
    rw [List.findIdx?_eq_none_iff]
    intro x hx
    obtain ⟨i, hi, rfl⟩ := List.getElem_of_mem hx
    simp [hb i hi]
  simp [find44, this]
theorem find44_cases (l : List S44) (o : Int) : (find44 l o = -1 ∧ ∀ x ∈ l, x.f0 ≠ o) ∨ ∃ (k : Nat) (hk : k < l.length), find44 l o = k ∧ (l[k]).f0 = o ∧ ∀ j (hj : j < k), (l[j]'(by omega)).f0 ≠ o := by
  unfold find44
  split
  · rename_i i h
    rw [List.findIdx?_eq_some_iff_getElem] at h
    obtain ⟨hi, h1, h2⟩ := h
    exact Or.inr ⟨i, hi, rfl, by simpa using h1, fun j hj => by simpa using h2 j hj⟩
  · rename_i h
    rw [List.findIdx?_eq_none_iff] at h
    exact Or.inl ⟨rfl, fun x hx => by simpa using h x hx⟩

/-! ### where, type 45 -/
def find45 (l : List S45) (o : Int) : Int := match l.findIdx? (fun x => x.f0 == o) with | some i => (i : Int) | none => -1
theorem find45_hit (o : Int) (l : List S45) (k : Nat) (hk : k < l.length) (h : l[k].f0 = o) (hb : ∀ j (hj : j < k), (l[j]'(by omega)).f0 ≠ o) : find45 l o = k := by
  have : l.findIdx? (fun x => x.f0 == o) = some k := by
    rw [List.findIdx?_eq_some_iff_getElem]
    exact ⟨hk, by simp [h], fun j hj => by simp [hb j hj]⟩
  simp [find45, this]
theorem find45_miss (o : Int) (l : List S45) (hb : ∀ j (hj : j < l.length), (l[j]'(by omega)).f0 ≠ o) : find45 l o = -1 := by
  have : l.findIdx? (fun x => x.f0 == o) = none := by
    rw [List.findIdx?_eq_none_iff]
    intro x hx
    obtain ⟨i, hi, rfl⟩ := List.getElem_of_mem hx
    simp [hb i hi]
  simp [find45, this]
theorem find45_cases (l : List S45) (o : Int) : (find45 l o = -1 ∧ ∀ x ∈ l, x.f0 ≠ o) ∨ ∃ (k : Nat) (hk : k < l.length), find45 l o = k ∧ (l[k]).f0 = o ∧ ∀ j (hj : j < k), (l[j]'(by omega)).f0 ≠ o := by
  unfold find45
  split
  · rename_i i h
    rw [List.findIdx?_eq_some_iff_getElem] at h
    obtain ⟨hi, h1, h2⟩ := h
    exact Or.inr ⟨i, hi, rfl, by simpa using h1, fun j hj => by simpa using h2 j hj⟩
  · rename_i h
    rw [List.findIdx?_eq_none_iff] at h
    exact Or.inl ⟨rfl, fun x hx => by simpa using h x hx⟩

set_option maxHeartbeats 8000000 in
set_option maxRecDepth 100000 in
theorem dhas44_calls (base g : Nat) (rs : List S44) (os : List S45) (o : Int) (w : World) (h : IsD base w g rs os) :
    Calls Try.prog 14 #[.pointer (some ⟨g, 0, none⟩), .int .i64 o] w fun e w' => e = .returned (.int .i64 (find44 rs o)) ∧ w' = w := by
  obtain ⟨vr, vo, hg0, hge, hr, ho⟩ := h
  obtain ⟨Ar, cr, er⟩ := Kd.R_slice hr
  obtain ⟨Ao, co, eo⟩ := Kd.R_slice ho
  subst er eo
  have BS := Aside0.mk hg0
  have HRr := Aside0.mk hr
  have HRo := Aside0.mk ho
  have GE := Aside0.mk hge
  have HB := Aside0.mk (Below.refl w.heap.size w)
  have hmr : rs.length ≤ 9223372036854775807 := Kd.C_max (Kd.R_reads' hr).2.2
  have hmo : os.length ≤ 9223372036854775807 := Kd.C_max (Kd.R_reads' ho).2.2
  have hu44 := Try.underlying44
  have hu45 := Try.underlying45
  have hu43 := Try.underlying43
  clear hg0 hge hr ho
  have qBS0 : World.cell? w ⟨g, 0, none⟩ = some (.slice Ar rs.length cr) := (blk_cell (BS.out) 0).trans rfl
  have qBS1 : World.cell? w ⟨g, 1, none⟩ = some (.slice Ao os.length co) := (blk_cell (BS.out) 1).trans rfl
  have zBS0 : World.frozen? w ⟨g, 0, none⟩ = false := blk_frozen (BS.out) 0
  have zBS1 : World.frozen? w ⟨g, 1, none⟩ = false := blk_frozen (BS.out) 1
  go_enter Try.func14, Try.ntmps14
  go_wp2
  go_loopg [5] rs.length (fun gg s5 wr => ∃ kk : Nat, kk ≤ rs.length ∧ rs.length - kk ≤ gg ∧ s5 = .int .i64 kk ∧ wr = w ∧ Aside0 (∀ j (hj : j < kk) (hl : j < rs.length), rs[j].f0 ≠ o))
  case atStart => exact ⟨0, Nat.zero_le _, by omega, rfl, rfl, ⟨fun j hj => absurd hj (Nat.not_lt_zero _)⟩⟩
  case round =>
    obtain ⟨kk, hkk, hgg, rfl, rfl, A⟩ := hrel
    by_cases hlt : kk < rs.length
    · have hltz : (kk : Int) < (rs.length : Int) := by omega
      have h0k : (0 : Int) ≤ (kk : Int) := by omega
      obtain ⟨ad, ea, h0, h1, h2⟩ := at_T44 (Kd.R_reads' HRr.out).2.2 (kk : Int) (by omega) (by omega)
      subst ea
      have hrd : rd_T44 rs (kk : Int) = rs[kk] := by simp [rd_T44, hlt]
      rw [hrd] at h0 h1 h2
      simp only [Int.toNat_natCast] at h0 h1 h2
      clear hrd
      generalize hx : rs[kk] = x at h0 h1 h2
      have X := Aside0.mk hx
      clear hx
      cases hq : (x.f0 == o) with
      | false =>
        go_wp2
        go_roundg (rs.length - (kk + 1))
        case measure => omega
        case rel =>
          refine ⟨kk + 1, by omega, by omega, by go_num, rfl, ⟨fun j hj hl => ?_⟩⟩
          by_cases e : j = kk
          · subst e
            rw [X.out]; simpa using hq
          · exact A.out j (by omega) hl
      | true =>
        go_wp2
        go_ret
        refine ⟨?_, rfl⟩
        rw [find44_hit o rs kk hlt (by rw [X.out]; simpa using hq) (fun j hj => A.out j hj (by omega))]; rfl
    · have hltz : ¬ (kk : Int) < (rs.length : Int) := by omega
      have hk : kk = rs.length := by omega
      subst hk
      go_wp2
      go_ret
      refine ⟨?_, rfl⟩
      rw [find44_miss o rs (fun j hj => A.out j hj hj)]; rfl

set_option maxHeartbeats 8000000 in
set_option maxRecDepth 100000 in
theorem dhas45_calls (base g : Nat) (rs : List S44) (os : List S45) (o : Int) (w : World) (h : IsD base w g rs os) :
    Calls Try.prog 20 #[.pointer (some ⟨g, 0, none⟩), .int .i64 o] w fun e w' => e = .returned (.int .i64 (find45 os o)) ∧ w' = w := by
  obtain ⟨vr, vo, hg0, hge, hr, ho⟩ := h
  obtain ⟨Ar, cr, er⟩ := Kd.R_slice hr
  obtain ⟨Ao, co, eo⟩ := Kd.R_slice ho
  subst er eo
  have BS := Aside0.mk hg0
  have HRr := Aside0.mk hr
  have HRo := Aside0.mk ho
  have GE := Aside0.mk hge
  have HB := Aside0.mk (Below.refl w.heap.size w)
  have hmr : rs.length ≤ 9223372036854775807 := Kd.C_max (Kd.R_reads' hr).2.2
  have hmo : os.length ≤ 9223372036854775807 := Kd.C_max (Kd.R_reads' ho).2.2
  have hu44 := Try.underlying44
  have hu45 := Try.underlying45
  have hu43 := Try.underlying43
  clear hg0 hge hr ho
  have qBS0 : World.cell? w ⟨g, 0, none⟩ = some (.slice Ar rs.length cr) := (blk_cell (BS.out) 0).trans rfl
  have qBS1 : World.cell? w ⟨g, 1, none⟩ = some (.slice Ao os.length co) := (blk_cell (BS.out) 1).trans rfl
  have zBS0 : World.frozen? w ⟨g, 0, none⟩ = false := blk_frozen (BS.out) 0
  have zBS1 : World.frozen? w ⟨g, 1, none⟩ = false := blk_frozen (BS.out) 1
  go_enter Try.func20, Try.ntmps20
  go_wp2
  go_loopg [5] os.length (fun gg s5 wr => ∃ kk : Nat, kk ≤ os.length ∧ os.length - kk ≤ gg ∧ s5 = .int .i64 kk ∧ wr = w ∧ Aside0 (∀ j (hj : j < kk) (hl : j < os.length), os[j].f0 ≠ o))
  case atStart => exact ⟨0, Nat.zero_le _, by omega, rfl, rfl, ⟨fun j hj => absurd hj (Nat.not_lt_zero _)⟩⟩
  case round =>
    obtain ⟨kk, hkk, hgg, rfl, rfl, A⟩ := hrel
    by_cases hlt : kk < os.length
    · have hltz : (kk : Int) < (os.length : Int) := by omega
      have h0k : (0 : Int) ≤ (kk : Int) := by omega
      obtain ⟨ad, ea, h0, h1, h2, h3, h4⟩ := at_T45 (Kd.R_reads' HRo.out).2.2 (kk : Int) (by omega) (by omega)
      subst ea
      have hrd : rd_T45 os (kk : Int) = os[kk] := by simp [rd_T45, hlt]
      rw [hrd] at h0 h1 h2 h3 h4
      simp only [Int.toNat_natCast] at h0 h1 h2 h3 h4
      clear hrd
      generalize hx : os[kk] = x at h0 h1 h2 h3 h4
      have X := Aside0.mk hx
      clear hx
      cases hq : (x.f0 == o) with
      | false =>
        go_wp2
        go_roundg (os.length - (kk + 1))
        case measure => omega
        case rel =>
          refine ⟨kk + 1, by omega, by omega, by go_num, rfl, ⟨fun j hj hl => ?_⟩⟩
          by_cases e : j = kk
          · subst e
            rw [X.out]; simpa using hq
          · exact A.out j (by omega) hl
      | true =>
        go_wp2
        go_ret
        refine ⟨?_, rfl⟩
        rw [find45_hit o os kk hlt (by rw [X.out]; simpa using hq) (fun j hj => A.out j hj (by omega))]; rfl
    · have hltz : ¬ (kk : Int) < (os.length : Int) := by omega
      have hk : kk = os.length := by omega
      subst hk
      go_wp2
      go_ret
      refine ⟨?_, rfl⟩
      rw [find45_miss o os (fun j hj => A.out j hj hj)]; rfl

end Go.Proofs.Ytfiniikeoemleaa.R
