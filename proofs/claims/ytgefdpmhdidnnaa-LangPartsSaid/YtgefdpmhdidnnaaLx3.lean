/- Walks: what each Go function of this seat that stands here comes to; conditions stand in each contract. Written by a program of this session. -/
import Derived.Test.YtgefdpmhdidnnaaLx0
import Derived.Test.YtgefdpmhdidnnaaLx2
namespace Go.Proofs.Ytgefdpmhdidnnaa.L
open Go.RowKit Go.Proofs.YtgefdpmhdidnnaaW.PrintWords Go.Proofs.YtgefdpmhdidnnaaW.PrintLast Go.Proofs.YtgefdpmhdidnnaaW.PrintMore
attribute [local go_sem] max2_int min2_int max_two min_two max_three min_three max_four min_four   -- for this text's walks alone
set_option linter.unusedVariables false
set_option linter.unusedSimpArgs false

-- GIVEN
/-! ### lang_Right: function 17 -/
/-- May an operation be (the program's way). -/
def okB (o : S33) (n : Int) : Bool :=
  if o.f0 = 1 ∨ o.f0 = 2 ∨ o.f0 = 5 then decide (0 ≤ o.f1) && decide (o.f1 < n) && decide (o.f2 = 0)
  else if o.f0 = 3 ∨ o.f0 = 4 then decide (o.f1 = 0) && decide (-128 ≤ o.f2) && decide (o.f2 ≤ 127) else false
theorem lang_Ok_f (o : S33) (n : Int) : lang_Ok.f o.f0 o.f1 o.f2 n = some (okB o n) := by
  obtain ⟨a, b, c⟩ := o
  simp only [lang_Ok.f, lang_object.f, okB]
  by_cases h1 : a = 1
  · subst h1; simp; by_cases h : 0 ≤ b <;> by_cases h' : b < n <;> simp [h, h'] <;> rfl
  by_cases h2 : a = 2
  · subst h2; simp; by_cases h : 0 ≤ b <;> by_cases h' : b < n <;> simp [h, h'] <;> rfl
  by_cases h5 : a = 5
  · subst h5; simp; by_cases h : 0 ≤ b <;> by_cases h' : b < n <;> simp [h, h'] <;> rfl
  have h5' : (a == 5) = false := by simp [h5]
  by_cases h3 : a = 3
  · subst h3; simp; by_cases h : b = 0 <;> by_cases h' : -128 ≤ c <;> simp [h, h']
  by_cases h4 : a = 4
  · subst h4; simp; by_cases h : b = 0 <;> by_cases h' : -128 ≤ c <;> simp [h, h']
  simp [h1, h2, h3, h4, h5, h5']

def lang_Right.f (l0 : List (S33)) (a1 : Int) : Option (Bool) := some (decide (1 ≤ l0.length) && decide (l0.length ≤ 8) && l0.all (okB · a1))

set_option maxHeartbeats 8000000 in
theorem lang_Right.clo (a1 : Int) (o : S33) (B : Nat) (w : World) (hc : w.cell? ⟨B, 0, none⟩ = some (.int .i64 a1)) :
    Calls Try.prog 30 #[.agg #[.int .i64 o.f0, .int .i64 o.f1, .int .i64 o.f2], .pointer (some ⟨B, 0, none⟩)] w fun e w' => e = .returned (.bool (!(okB o a1))) ∧ Below w.heap.size w w' := by
  have hu33 := Try.underlying33
  have hB := World.block_lt_of_cell? w _ hc
  have hne : B ≠ w.heap.size := by simp at hB; omega
  have H := lang_Ok.calls o.f0 o.f1 o.f2 a1 _ (w.alloc (.cells #[.int .i64 o.f0, .int .i64 o.f1, .int .i64 o.f2] 33)) (lang_Ok_f o a1)
  generalize okB o a1 = b at H ⊢
  go_enter Try.func30, Try.ntmps30
  go_wp2_with (go_at_call 15; refine H.mono ?_; rintro e w' ⟨rfl, hb'⟩)
  go_ret
  exact ⟨rfl, ((Below.refl _ w).alloc (Nat.le_refl _) _).trans (hb'.mono (by simp))⟩

/-- The place of the first that may not be, or -1. -/
def idxBad (a1 : Int) (l : List S33) : Int := match l.findIdx? (fun o => !(okB o a1)) with | some i => (i : Int) | none => -1
theorem idxBad_hit (a1 : Int) (l : List S33) (k : Nat) (hk : k < l.length) (h : okB l[k] a1 = false) (hb : ∀ j (hj : j < k), okB (l[j]'(by omega)) a1 = true) : idxBad a1 l = k := by
  have : l.findIdx? (fun o => !(okB o a1)) = some k := by
    rw [List.findIdx?_eq_some_iff_getElem]
    exact ⟨hk, by simp [h], fun j hj => by simp [hb j hj]⟩
  simp [idxBad, this]
theorem idxBad_miss (a1 : Int) (l : List S33) (hb : ∀ j (hj : j < l.length), okB (l[j]'(by omega)) a1 = true) : idxBad a1 l = -1 := by
  have : l.findIdx? (fun o => !(okB o a1)) = none := by
    rw [List.findIdx?_eq_none_iff]
    intro x hx
    obtain ⟨i, hi, rfl⟩ := List.getElem_of_mem hx
    simp [hb i hi]
  simp [idxBad, this]
theorem idxBad_all (a1 : Int) (l : List S33) : decide (0 ≤ idxBad a1 l) = !(l.all (okB · a1)) := by
  unfold idxBad
  split
  · rename_i i h
    rw [List.findIdx?_eq_some_iff_getElem] at h
    obtain ⟨hi, h1, _⟩ := h
    have : l.all (okB · a1) = false := by
      rw [List.all_eq_false]
      exact ⟨l[i], List.getElem_mem hi, by simpa using h1⟩
    simp [this]
  · rename_i h
    rw [List.findIdx?_eq_none_iff] at h
    have : l.all (okB · a1) = true := by
      rw [List.all_eq_true]
      intro x hx
      simpa using h x hx
    simp [this]

set_option maxHeartbeats 8000000 in
theorem lang_Right.idx (A0 : Option Addr) (c0 : Nat) (l0 : List S33) (a1 : Int) (B : Nat) (w : World) (hr0 : Kd.C k33 w A0 l0.length l0) (hc : w.cell? ⟨B, 0, none⟩ = some (.int .i64 a1)) :
    Calls Try.prog 31 #[.slice A0 l0.length c0, .func (.func 30) #[] #[.pointer (some ⟨B, 0, none⟩)]] w fun e w' => e = .returned (.int .i64 (idxBad a1 l0)) ∧ Below w.heap.size w w' := by
  have hu33 := Try.underlying33
  have hmax : l0.length ≤ 9223372036854775807 := Kd.C_max hr0
  have HR := Aside0.mk hr0
  have HC := Aside0.mk hc
  clear hr0 hc
  go_enter Try.func31, Try.ntmps31
  go_wp2
  go_loopg [5, 8] l0.length (fun gg _ s8 wr => ∃ kk : Nat, kk ≤ l0.length ∧ l0.length - kk ≤ gg ∧ s8 = .int .i64 kk ∧ Aside0 (Below w.heap.size w wr) ∧ Aside0 (∀ j (hj : j < kk) (hl : j < l0.length), okB l0[j] a1 = true))
  case atStart => exact ⟨0, Nat.zero_le _, by omega, rfl, ⟨Below.refl _ w⟩, ⟨fun j hj => absurd hj (Nat.not_lt_zero _)⟩⟩
  case round =>
    obtain ⟨kk, hkk, hg, rfl, HB, A⟩ := hrel
    by_cases hlt : kk < l0.length
    · have hltz : (kk : Int) < (l0.length : Int) := by omega
      obtain ⟨ad, ea, h0, h1, h2⟩ := at_T33 HR.out (kk : Int) (by omega) (by omega)
      subst ea
      replace h0 := (HB.out.cell (World.block_lt_of_cell? w _ h0)).trans h0
      replace h1 := (HB.out.cell (World.block_lt_of_cell? w _ h1)).trans h1
      replace h2 := (HB.out.cell (World.block_lt_of_cell? w _ h2)).trans h2
      have hcell := (HB.out.cell (World.block_lt_of_cell? w _ HC.out)).trans HC.out
      have hrd : rd_T33 l0 (kk : Int) = l0[kk] := by simp [rd_T33, hlt]
      rw [hrd] at h0 h1 h2
      simp only [Int.toNat_natCast] at h0 h1 h2
      have hcall := lang_Right.clo a1 l0[kk] B wr hcell
      clear hrd
      have HO : Aside0 (okB l0[kk] a1 = okB l0[kk] a1) := ⟨rfl⟩
      generalize hx : l0[kk] = x at h0 h1 h2 hcall
      have X := Aside0.mk hx
      clear hx
      cases hq : okB x a1 with
      | true =>
        rw [hq] at hcall
        go_wp2_with (go_at_call 30; refine hcall.mono ?_; rintro e w' ⟨rfl, hb'⟩)
        go_roundg (l0.length - (kk + 1))
        case measure => omega
        case rel =>
          refine ⟨kk + 1, by omega, by omega, by go_num, ⟨below_step HB.out hb'⟩, ⟨fun j hj hl => ?_⟩⟩
          by_cases e : j = kk
          · subst e
            rw [X.out]; exact hq
          · exact A.out j (by omega) hl
      | false =>
        rw [hq] at hcall
        go_wp2_with (go_at_call 30; refine hcall.mono ?_; rintro e w' ⟨rfl, hb'⟩)
        go_ret
        refine ⟨?_, below_step HB.out hb'⟩
        rw [idxBad_hit a1 l0 kk hlt (by rw [X.out]; exact hq) (fun j hj => A.out j hj (by omega))]; rfl
    · have hltz : ¬ (kk : Int) < (l0.length : Int) := by omega
      have : kk = l0.length := by omega
      subst this
      go_wp2
      go_ret
      refine ⟨?_, HB.out⟩
      rw [idxBad_miss a1 l0 (fun j hj => A.out j hj hj)]; rfl

set_option maxHeartbeats 8000000 in
theorem lang_Right.cont (A0 : Option Addr) (c0 : Nat) (l0 : List S33) (a1 : Int) (B : Nat) (w : World) (hr0 : Kd.C k33 w A0 l0.length l0) (hc : w.cell? ⟨B, 0, none⟩ = some (.int .i64 a1)) :
    Calls Try.prog 29 #[.slice A0 l0.length c0, .func (.func 30) #[] #[.pointer (some ⟨B, 0, none⟩)]] w fun e w' => e = .returned (.bool (!(l0.all (okB · a1)))) ∧ Below w.heap.size w w' := by
  have H := lang_Right.idx A0 c0 l0 a1 B w hr0 hc
  have E := Aside0.mk (idxBad_all a1 l0)
  clear hr0 hc
  generalize idxBad a1 l0 = r at H E
  go_enter Try.func29, Try.ntmps29
  go_wp2_with (go_at_call 31; refine H.mono ?_; rintro e w' ⟨rfl, hb'⟩)
  go_ret
  exact ⟨by rw [← E.out]; rfl, hb'⟩

set_option maxHeartbeats 8000000 in
set_option maxRecDepth 100000 in
theorem lang_Right.calls (A0 : Option Addr) (c0 : Nat) (l0 : List (S33)) (a1 : Int) (r : Bool) (w : World) (hr0 : Kd.C k33 w A0 l0.length l0) (_hc0 : l0.length ≤ c0) (h : lang_Right.f l0 a1 = some r) :
    Calls Try.prog 17 #[.slice A0 l0.length c0, .int .i64 a1] w fun e w' => e = .returned (.bool r) ∧ Below w.heap.size w w' := by
  obtain rfl := Option.some.inj h
  clear h
  have H := lang_Right.cont A0 c0 l0 a1 w.heap.size (w.alloc (.cells #[.int .i64 a1] 3)) (Kd.C_alloc hr0 _) (by simp)
  have HB : Below w.heap.size w (w.alloc (.cells #[.int .i64 a1] 3)) := (Below.refl _ w).alloc (Nat.le_refl _) _
  clear hr0
  by_cases h1 : 1 ≤ l0.length
  · by_cases h8 : l0.length ≤ 8
    · have e1 : decide ((1 : Int) ≤ (l0.length : Int)) = true := decide_eq_true (by omega)
      have e8 : decide ((l0.length : Int) ≤ 8) = true := decide_eq_true (by omega)
      have e1' : decide (1 ≤ l0.length) = true := decide_eq_true (by omega)
      have e8' : decide (l0.length ≤ 8) = true := decide_eq_true (by omega)
      have E := Aside0.mk (show (decide (1 ≤ l0.length) && decide (l0.length ≤ 8) && l0.all (okB · a1)) = l0.all (okB · a1) by rw [e1', e8']; rfl)
      rw [E.out]
      clear h1 h8
      generalize l0.all (okB · a1) = b at H
      go_enter Try.func17, Try.ntmps17
      go_wp2_with (go_at_call 29; refine H.mono ?_; rintro e w' ⟨rfl, hb'⟩)
      go_ret
      exact ⟨by simp, HB.trans (hb'.mono (by simp))⟩
    · have e1 : decide ((1 : Int) ≤ (l0.length : Int)) = true := decide_eq_true (by omega)
      have e8 : decide ((l0.length : Int) ≤ 8) = false := decide_eq_false (by omega)
      have e1' : decide (1 ≤ l0.length) = true := decide_eq_true (by omega)
      have e8' : decide (l0.length ≤ 8) = false := decide_eq_false (by omega)
      have E := Aside0.mk (show (decide (1 ≤ l0.length) && decide (l0.length ≤ 8) && l0.all (okB · a1)) = false by rw [e1', e8']; rfl)
      rw [E.out]
      clear H h1 h8
      go_enter Try.func17, Try.ntmps17
      go_wp2
      go_ret
      exact ⟨by simp, HB⟩
  · have e1 : decide ((1 : Int) ≤ (l0.length : Int)) = false := decide_eq_false (by omega)
    have e1' : decide (1 ≤ l0.length) = false := decide_eq_false (by omega)
    have E := Aside0.mk (show (decide (1 ≤ l0.length) && decide (l0.length ≤ 8) && l0.all (okB · a1)) = false by rw [e1']; rfl)
    rw [E.out]
    clear H h1
    go_enter Try.func17, Try.ntmps17
    go_wp2
    go_ret
    exact ⟨by simp, HB⟩

end Go.Proofs.Ytgefdpmhdidnnaa.L
