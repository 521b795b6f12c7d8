/- The pure statement of the law LangOk: whether any operation, and any list, may be, the sum behind it, and how many open. -/
import Derived.Test.YtgefdpmhdidnnaaLSaidLangOk
import Derived.Test.YtgefdpmhdidnnaaLPlain
namespace Go.Proofs.Ytgefdpmhdidnnaa.Pure
open Go.RowKit Go.Proofs.Ytgefdpmhdidnnaa.L Go.Proofs.YtgefdpmhdidnnaaW.PrintWords

def cnt (l : List S33) : Nat := l.countP (fun o => o.f0 == 1 || o.f0 == 2)
theorem cnt_drop (l : List S33) (i : Nat) (h : i < l.length) : cnt (l.drop i) = (if l[i].f0 = 1 ∨ l[i].f0 = 2 then 1 else 0) + cnt (l.drop (i + 1)) := by
  unfold cnt
  rw [List.drop_eq_getElem_cons h, List.countP_cons, Nat.add_comm]
  simp
theorem cnt_le (l : List S33) : cnt l ≤ l.length := List.countP_le_length

theorem opens_loop (l : List S33) (hm : l.length ≤ 9223372036854775806) : ∀ (d k i a : Nat), i + d = l.length → d < k → a ≤ i →
    lang_Opens.l0 k (a : Int) l (l.length : Int) (i : Int) = some ((a + cnt (l.drop i) : Nat) : Int) := by
  intro d
  induction d with
  | zero =>
    intro k i a hi hk ha
    obtain ⟨k, rfl⟩ : ∃ m, k = m + 1 := ⟨k - 1, by omega⟩
    simp only [lang_Opens.l0]
    rw [if_neg (by omega), List.drop_of_length_le (by omega)]
    simp [cnt]
  | succ d ih =>
    intro k i a hi hk ha
    obtain ⟨k, rfl⟩ : ∃ m, k = m + 1 := ⟨k - 1, by omega⟩
    have hl : i < l.length := by omega
    have hc := cnt_drop l i hl
    have wa : wrap64 ((a : Int) + 1) = ((a + 1 : Nat) : Int) := w1 (n := l.length) (by omega) (by omega)
    simp only [lang_Opens.l0]
    rw [if_pos (by omega), if_pos (by omega), if_pos (by omega), rd_T33_nat l i hl, w1 hl (by omega), wa]
    by_cases h1 : l[i].f0 = 1
    · rw [if_pos h1, ih k (i + 1) (a + 1) (by omega) (by omega) (by omega), hc, if_pos (.inl h1), Nat.add_assoc]
    rw [if_neg h1]
    by_cases h2 : l[i].f0 = 2
    · rw [if_pos h2, ih k (i + 1) (a + 1) (by omega) (by omega) (by omega), hc, if_pos (.inr h2), Nat.add_assoc]
    rw [if_neg h2, ih k (i + 1) a (by omega) (by omega) (by omega), hc, if_neg (by omega), Nat.zero_add]
theorem opens_f (l : List S33) (hm : l.length ≤ 9223372036854775806) (k : Nat) (hk : l.length < k) : lang_Opens.f k l = some ((cnt l : Nat) : Int) := by
  unfold lang_Opens.f
  have := opens_loop l hm l.length k 0 0 (by omega) hk (by omega)
  simpa using this

theorem ok_loop (l : List S33) (o : S33) (n s w : Int) (hw : Aside0 (w = sumP o.f0 o.f2 s)) (hm : l.length ≤ 50) : ∀ (d k i a : Nat), i + d = l.length → d + 60 < k → a ≤ i → a + cnt (l.drop i) = cnt l →
    quarrellaw11_LangOk.l0 k l n s w (a : Int) (i : Int) o.f0 o.f1 o.f2 = some true := by
  intro d
  induction d with
  | zero =>
    intro k i a hi hk ha hc
    obtain ⟨k, rfl⟩ : ∃ m, k = m + 1 := ⟨k - 1, by omega⟩
    have hd : l.drop i = [] := List.drop_of_length_le (by omega)
    simp only [quarrellaw11_LangOk.l0]
    rw [if_neg (by omega), lang_Ok_f, refOk_f o n k (by omega)]
    simp only [Option.bind_some, beq_self_eq_true, if_true]
    rw [show lang_Right.f l n = some (rightB l n) from rfl, right_f l n (by omega) k (by omega)]
    simp only [Option.bind_some, beq_self_eq_true, if_true]
    rw [lang_Sum_f, ← hw.out, opens_f l (by omega) k (by omega)]
    simp only [Option.bind_some, if_true]
    have : a = cnt l := by rw [← hc, hd]; simp [cnt]
    rw [this]
    simp
  | succ d ih =>
    intro k i a hi hk ha hc
    obtain ⟨k, rfl⟩ : ∃ m, k = m + 1 := ⟨k - 1, by omega⟩
    have hl : i < l.length := by omega
    have hcd := cnt_drop l i hl
    have wa : wrap64 ((a : Int) + 1) = ((a + 1 : Nat) : Int) := w1 (n := l.length) (by omega) (by omega)
    simp only [quarrellaw11_LangOk.l0]
    rw [if_pos (by omega), if_pos (by omega), rd_T33_nat l i hl, w1 hl (by omega), wa]
    clear wa
    by_cases h1 : l[i].f0 = 1
    · rw [if_pos h1]
      rw [if_pos (.inl h1)] at hcd
      exact ih k (i + 1) (a + 1) (by omega) (by omega) (by omega) (by omega)
    rw [if_neg h1]
    by_cases h2 : l[i].f0 = 2
    · rw [if_pos h2]
      rw [if_pos (.inr h2)] at hcd
      exact ih k (i + 1) (a + 1) (by omega) (by omega) (by omega) (by omega)
    rw [if_neg h2]
    rw [if_neg (by omega)] at hcd
    exact ih k (i + 1) a (by omega) (by omega) (by omega) (by omega)

theorem LangOk : quarrellaw11_LangOk.Pure := by
  intro l0 o n s _ _ _ _ _
  obtain ⟨K, hK⟩ : ∃ K : Nat, 199 ≤ K := ⟨199, Nat.le_refl _⟩
  refine ⟨K + 1, ?_⟩
  unfold quarrellaw11_LangOk.f
  rw [alive_f _ (by omega)]
  simp only [Option.bind_some, if_true]
  by_cases h0 : (l0.length : Int) > 50
  · rw [if_pos h0]
  rw [if_neg h0]
  have key : ∀ w, w = sumP o.f0 o.f2 s → quarrellaw11_LangOk.j0 (K + 1) l0 n s w o.f0 o.f1 o.f2 = some true := by
    intro w hw
    simp only [quarrellaw11_LangOk.j0]
    have h := ok_loop l0 o n s w ⟨hw⟩ (by omega) l0.length K 0 0 (by omega) (by omega) (by omega) (by simp)
    simpa using h
  by_cases h3 : o.f0 = 3
  · rw [if_pos h3]
    exact key _ (by unfold sumP; rw [if_pos h3])
  rw [if_neg h3]
  by_cases h4 : o.f0 = 4
  · rw [if_pos h4]
    exact key _ (by unfold sumP; rw [if_neg h3, if_pos h4])
  rw [if_neg h4]
  exact key _ (by unfold sumP; rw [if_neg h3, if_neg h4])
end Go.Proofs.Ytgefdpmhdidnnaa.Pure
