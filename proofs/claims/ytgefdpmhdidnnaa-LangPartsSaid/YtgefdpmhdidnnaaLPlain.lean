/- Plain laws: what the loops of the printed functions come to, over numbers and lists. Conditions: lengths below 2^63. -/
import Derived.Test.YtgefdpmhdidnnaaLx5
import Derived.Test.YtgefdpmhdidnnaaLx6
namespace Go.Proofs.Ytgefdpmhdidnnaa.L
open Go.RowKit Go.Proofs.YtgefdpmhdidnnaaW.PrintWords

theorem w1 {i n : Nat} (h : i < n) (hn : n ≤ 9223372036854775807) : wrap64 ((i : Int) + 1) = ((i + 1 : Nat) : Int) := by unfold wrap64; omega
theorem rd_nat (xs : List Int) (i : Nat) (h : i < xs.length) : rd xs (i : Int) = xs[i] := by simp [rd, h]
theorem rd_T33_nat (xs : List S33) (i : Nat) (h : i < xs.length) : rd_T33 xs (i : Int) = xs[i] := by simp [rd_T33, h]

theorem vals_loop (a b : List Int) (hl : a.length = b.length) (hm : a.length ≤ 9223372036854775807) : ∀ (d k i : Nat), i + d = a.length → d < k →
    quarrelref01_Vals.l0 k a b (i : Int) = some (decide (a.drop i = b.drop i)) := by
  intro d
  induction d with
  | zero =>
    intro k i hi hk
    obtain ⟨k, rfl⟩ : ∃ m, k = m + 1 := ⟨k - 1, by omega⟩
    simp only [quarrelref01_Vals.l0]
    rw [if_neg (by omega), List.drop_of_length_le (by omega), List.drop_of_length_le (by omega)]
    simp
  | succ d ih =>
    intro k i hi hk
    obtain ⟨k, rfl⟩ : ∃ m, k = m + 1 := ⟨k - 1, by omega⟩
    have ha : i < a.length := by omega
    have hb : i < b.length := by omega
    simp only [quarrelref01_Vals.l0]
    rw [if_pos (by omega), if_pos (by omega), if_pos (by omega), rd_nat a i ha, rd_nat b i hb, List.drop_eq_getElem_cons ha, List.drop_eq_getElem_cons hb]
    by_cases e : a[i] = b[i]
    · rw [if_pos e, w1 ha hm, ih k (i + 1) (by omega) (by omega)]
      simp only [List.cons.injEq, e, true_and]
    · rw [if_neg e]
      simp only [List.cons.injEq, e, false_and, decide_false]
theorem vals_f (a b : List Int) (hm : a.length ≤ 9223372036854775807) (k : Nat) (hk : a.length < k) : quarrelref01_Vals.f k a b = some (decide (a = b)) := by
  unfold quarrelref01_Vals.f
  by_cases e : a.length = b.length
  · rw [if_pos (by omega)]
    have := vals_loop a b e hm a.length k 0 (by omega) hk
    simpa using this
  · rw [if_neg (by omega)]
    have : a ≠ b := fun h => e (by rw [h])
    simp [this]

theorem refOk_f (o : S33) (n : Int) (k : Nat) (hk : 0 < k) : quarrelref11_Ok.f k o.f0 o.f1 o.f2 n = some (okB o n) := by
  obtain ⟨k, rfl⟩ : ∃ m, k = m + 1 := ⟨k - 1, by omega⟩
  obtain ⟨a, b, c⟩ := o
  simp only [quarrelref11_Ok.f, quarrelref11_Ok.j0, okB]
  by_cases h0 : a < 1
  · rw [if_pos h0, if_pos trivial, if_neg (show ¬ (a = 1 ∨ a = 2 ∨ a = 5) by omega), if_neg (show ¬ (a = 3 ∨ a = 4) by omega)]
  rw [if_neg h0]
  by_cases h6 : a > 5
  · rw [if_pos (by simpa using h6), if_neg (show ¬ (a = 1 ∨ a = 2 ∨ a = 5) by omega), if_neg (show ¬ (a = 3 ∨ a = 4) by omega)]
  rw [if_neg (by simpa using h6)]
  by_cases h3 : a = 3
  · rw [if_pos h3, if_neg (show ¬ (a = 1 ∨ a = 2 ∨ a = 5) by omega), if_pos (show a = 3 ∨ a = 4 by omega)]
    by_cases h : b = 0 <;> by_cases h' : c ≥ -128 <;> simp [h, h'] <;> omega
  rw [if_neg h3]
  by_cases h4 : a = 4
  · rw [if_pos h4, if_neg (show ¬ (a = 1 ∨ a = 2 ∨ a = 5) by omega), if_pos (show a = 3 ∨ a = 4 by omega)]
    by_cases h : b = 0 <;> by_cases h' : c ≥ -128 <;> simp [h, h'] <;> omega
  rw [if_neg h4, if_pos (show a = 1 ∨ a = 2 ∨ a = 5 by omega)]
  by_cases h : b ≥ 0 <;> by_cases h' : b < n <;> simp [h, h']
  · rfl
  all_goals omega

theorem right_loop (l : List S33) (n : Int) (hm : l.length ≤ 9223372036854775807) : ∀ (d k i : Nat), i + d = l.length → d < k →
    quarrelref11_Right.l0 (k + 1) l n (i : Int) = some ((l.drop i).all (okB · n) && (decide (1 ≤ l.length) && decide (l.length ≤ 8))) := by
  intro d
  induction d with
  | zero =>
    intro k i hi hk
    simp only [quarrelref11_Right.l0]
    rw [if_neg (by omega), List.drop_of_length_le (by omega)]
    by_cases h : 0 < l.length
    · rw [if_pos (by omega)]
      have e : decide (1 ≤ l.length) = true := decide_eq_true (by omega)
      have e' : decide (l.length ≤ 8) = decide ((l.length : Int) < 9) := by
        by_cases h8 : l.length ≤ 8
        · rw [decide_eq_true h8, decide_eq_true (by omega)]
        · rw [decide_eq_false h8, decide_eq_false (by omega)]
      rw [e, e']
      rfl
    · rw [if_neg (by omega)]
      have e : decide (1 ≤ l.length) = false := decide_eq_false (by omega)
      rw [e]
      rfl
  | succ d ih =>
    intro k i hi hk
    have ha : i < l.length := by omega
    simp only [quarrelref11_Right.l0]
    rw [if_pos (by omega), if_pos (by omega), rd_T33_nat l i ha, refOk_f _ _ _ (by omega), List.drop_eq_getElem_cons ha, List.all_cons]
    simp only [Option.bind_some]
    by_cases e : okB l[i] n = true
    · rw [if_pos e, w1 ha hm]
      obtain ⟨k, rfl⟩ : ∃ m, k = m + 1 := ⟨k - 1, by omega⟩
      rw [ih k (i + 1) (by omega) (by omega), e]
      rfl
    · have e' : okB l[i] n = false := by simpa using e
      rw [if_neg e, e']
      rfl
theorem right_f (l : List S33) (n : Int) (hm : l.length ≤ 9223372036854775807) (k : Nat) (hk : l.length + 1 < k) : quarrelref11_Right.f k l n = some (rightB l n) := by
  obtain ⟨k, rfl⟩ : ∃ m, k = m + 1 := ⟨k - 1, by omega⟩
  unfold quarrelref11_Right.f rightB
  have := right_loop l n hm l.length k 0 (by omega) (by omega)
  rw [show ((0 : Nat) : Int) = 0 from rfl] at this
  rw [this, List.drop_zero, Bool.and_comm]

/-- One operation of a transaction whose operations may be. -/
theorem stepA_kinds (p : List Int × Int) (o : S33) (n : Int) (h : okB o n = true) :
    stepA p o = if o.f0 = 1 then (p.1, rd p.1 o.f1) else if o.f0 = 2 then (p.1.set o.f1.toNat p.2, p.2) else if o.f0 = 3 then (p.1, o.f2) else if o.f0 = 4 then (p.1, wrap64 (p.2 + o.f2)) else p := by
  unfold stepA sumP
  rcases okB_kind o n h with e | e | e | e | e <;> simp [e]

theorem alone_loop (l : List S33) (n : Nat) (hm : l.length ≤ 9223372036854775807) (hok : ∀ o ∈ l, okB o (n : Int) = true) : ∀ (d k i : Nat) (p : List Int × Int), p.1.length = n → i + d = l.length → d < k →
    quarrelref11_Alone.l0 k l p.1 p.2 (i : Int) = some (foldA (l.drop i) p).1 := by
  intro d
  induction d with
  | zero =>
    intro k i p hp hi hk
    obtain ⟨k, rfl⟩ : ∃ m, k = m + 1 := ⟨k - 1, by omega⟩
    simp only [quarrelref11_Alone.l0]
    rw [if_neg (by omega), List.drop_of_length_le (by omega)]
    rfl
  | succ d ih =>
    intro k i p hp hi hk
    obtain ⟨k, rfl⟩ : ∃ m, k = m + 1 := ⟨k - 1, by omega⟩
    have ha : i < l.length := by omega
    have ho := hok _ (List.getElem_mem ha)
    have hs := stepA_kinds p l[i] n ho
    have hr := okB_range l[i] n ho
    have hf : foldA (l.drop i) p = foldA (l.drop (i + 1)) (stepA p l[i]) := by rw [List.drop_eq_getElem_cons ha]; rfl
    have hi1 := fun q hq => ih k (i + 1) q hq (by omega) (by omega)
    have hlen : (stepA p l[i]).1.length = n := by
      have := foldA_len [l[i]] p
      rw [← hp]; exact this
    have hnext := hi1 _ hlen
    rw [hf, ← hnext]
    simp only [quarrelref11_Alone.l0]
    rw [if_pos (by omega), if_pos (by omega), rd_T33_nat l i ha, w1 ha hm, hs]
    by_cases h1 : l[i].f0 = 1
    · have := hr (.inl h1)
      rw [if_pos h1, if_pos h1, if_pos this.1, if_pos (by omega)]
    rw [if_neg h1, if_neg h1]
    by_cases h2 : l[i].f0 = 2
    · have := hr (.inr h2)
      rw [if_pos h2, if_pos h2, if_pos this.1, if_pos (by omega)]
    rw [if_neg h2, if_neg h2]
    by_cases h3 : l[i].f0 = 3
    · rw [if_pos h3, if_pos h3]
    rw [if_neg h3, if_neg h3]
    by_cases h4 : l[i].f0 = 4
    · rw [if_pos h4, if_pos h4]
    rw [if_neg h4, if_neg h4]
theorem alone_f (l : List S33) (vs : List Int) (hm : l.length ≤ 9223372036854775807) (hv : vs.length < 17592186044416) (hok : rightB l (vs.length : Int) = true) (k : Nat) (hk : l.length < k) :
    quarrelref11_Alone.f k l vs = some (foldA l (vs, 0)).1 := by
  unfold quarrelref11_Alone.f
  simp only [Option.bind_some, List.length_nil, Nat.zero_add, List.nil_append]
  rw [if_pos hv]
  have hall : ∀ o ∈ l, okB o (vs.length : Int) = true := by
    simp only [rightB, Bool.and_eq_true, List.all_eq_true] at hok
    exact hok.2
  have := alone_loop l vs.length hm hall l.length k 0 (vs, 0) rfl (by omega) hk
  simpa using this
theorem langAlone_f (l : List S33) (vs : List Int) (hv : vs.length < 17592186044416) : lang_Alone.f l vs = some (if rightB l (vs.length : Int) = true then ((foldA l (vs, 0)).1, 0) else ([], 3)) := by
  unfold lang_Alone.f
  rw [if_pos hv]
  split <;> rfl

theorem alive_f (k : Nat) (hk : 2 < k) : quarrellaw11_alive.f k = some true := by
  unfold quarrellaw11_alive.f
  have h1 : lang_Alone.f ([(⟨1, 0, 0⟩ : S33), (⟨4, 0, 5⟩ : S33), (⟨2, 1, 0⟩ : S33)]) [7, 2] = some ([7, 12], 0) := by decide +kernel
  rw [h1]
  simp only [Option.bind_some, if_true]
  rw [vals_f _ _ (by simp) k (by simp; omega)]
  rfl
end Go.Proofs.Ytgefdpmhdidnnaa.L
