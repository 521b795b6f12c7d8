/- The pure statement of the law LangBack: what may be and was put is got as it was, and what was got is put as those bytes. -/
import Derived.Test.YtgefdpmhdidnnaaLSaidLangBack
import Derived.Test.YtgefdpmhdidnnaaLPlainPut
import Derived.Test.YtgefdpmhdidnnaaLx14
namespace Go.Proofs.Ytgefdpmhdidnnaa.Pure
open Go.RowKit Go.Proofs.Ytgefdpmhdidnnaa.L Go.Proofs.YtgefdpmhdidnnaaW.PrintWords

theorem bytesB {b : List Int} (h : ∀ x ∈ b, (Lit.int .u8 x).wf = true) : isBytes b := by
  intro x hx
  have := h x hx
  simp [Lit.wf, IntKind.min, IntKind.max, IntKind.signed, IntKind.bits] at this
  omega
theorem getB_len (n : Int) : ∀ (m : Nat) (b : List Int) (i : Int) (acc : List S33), b.length ≤ m → (getL n b i acc).1.length ≤ acc.length + b.length := by
  intro m
  induction m with
  | zero =>
    intro b i acc h
    have : b = [] := List.eq_nil_of_length_eq_zero (by omega)
    subst this
    simp [getL]
  | succ m ih =>
    intro b i acc h
    match b, h with
    | [], _ => simp [getL]
    | [_], _ => simp [getL]
    | [_, _], _ => simp [getL]
    | x :: y :: z :: t, h =>
      simp only [getL]
      split
      · refine Nat.le_trans (ih t _ _ (by simp at h; omega)) (by simp; omega)
      · simp

theorem back_j2 (b : List Int) (n : Int) (hb : isBytes b) (hm : b.length ≤ 300) (k : Nat) (hk : 400 < k) : quarrellaw11_LangBack.j2 k b n false = some true := by
  obtain ⟨k, rfl⟩ : ∃ m, k = m + 1 := ⟨k - 1, by omega⟩
  simp only [quarrellaw11_LangBack.j2]
  rw [if_neg (by simp), get_f n b hb (by omega) k (by omega)]
  simp only [Option.bind_some]
  by_cases he : (getL n b 0 []).2.2 = 0
  · have hl := getB_len n b.length b 0 [] (Nat.le_refl _)
    have hp := put_get n b.length b 0 [] (Nat.le_refl _) hb he
    simp only [List.length_nil, Nat.zero_add] at hl
    rw [if_pos he, put_f _ (by omega) k (by omega), hp]
    simp [putL]
  · rw [if_neg he]

theorem back_end (l : List S33) (b : List Int) (n : Int) (hb : isBytes b) (hm : l.length ≤ 100) (hbm : b.length ≤ 300) (hn : n ≤ 8) (k : Nat) (hk : 500 < k) (acc : Bool) (ha : acc = l.all (okB · n)) :
    quarrellaw11_LangBack.l0 k l b n acc (l.length : Int) = some true := by
  obtain ⟨k, rfl⟩ : ∃ m, k = m + 1 := ⟨k - 1, by omega⟩
  have hj := back_j2 b n hb hbm k (by omega)
  have hp := put_f l (by omega) k (by omega)
  have hg := get_f n (putL l) (putL_bytes l) (by rw [putL_len]; omega) k (by rw [putL_len]; omega)
  have hw : wrap64 (3 * (l.length : Int)) = ((putL l).length : Int) := by rw [wrap64_in (by omega), putL_len]; omega
  simp only [quarrellaw11_LangBack.l0]
  rw [if_neg (by omega), hp]
  simp only [Option.bind_some]
  rw [hg, hw]
  simp only [Option.bind_some, if_true]
  cases acc with
  | true =>
    have hall : ∀ o ∈ l, okB o n = true := by simpa [List.all_eq_true] using ha.symm
    rw [get_put n (by omega) l 0 [] hall]
    obtain ⟨r, hr, hiff⟩ := same_f ([] ++ l) l (by simp; omega) k (by simp; omega)
    have hrt : r = true := hiff.2 (by simp)
    subst hrt
    simp only [if_true, hr, Option.bind_some, bne_self_eq_false]
    exact hj
  | false => simpa using hj

theorem back_loop (l : List S33) (b : List Int) (n : Int) (hb : isBytes b) (hm : l.length ≤ 100) (hbm : b.length ≤ 300) (hn : n ≤ 8) : ∀ (d k i : Nat) (acc : Bool), i + d = l.length → d + 500 < k →
    (acc && (l.drop i).all (okB · n)) = l.all (okB · n) → quarrellaw11_LangBack.l0 k l b n acc (i : Int) = some true := by
  intro d
  induction d with
  | zero =>
    intro k i acc hi hk ha
    have hil : i = l.length := by omega
    subst hil
    rw [List.drop_length, List.all_nil, Bool.and_true] at ha
    exact back_end l b n hb hm hbm hn k (by omega) acc ha
  | succ d ih =>
    intro k i acc hi hk ha
    obtain ⟨k, rfl⟩ : ∃ m, k = m + 1 := ⟨k - 1, by omega⟩
    have hl : i < l.length := by omega
    rw [List.drop_eq_getElem_cons hl, List.all_cons] at ha
    simp only [quarrellaw11_LangBack.l0]
    rw [if_pos (by omega), w1 hl (by omega)]
    by_cases hacc : acc = true
    · subst hacc
      rw [if_pos rfl, if_pos (by omega), rd_T33_nat l i hl, refOk_f _ _ k (by omega)]
      simp only [Option.bind_some]
      exact ih k (i + 1) (okB l[i] n) (by omega) (by omega) (by rw [← ha]; rfl)
    · have : acc = false := by simpa using hacc
      subst this
      rw [if_neg (by simp)]
      exact ih k (i + 1) false (by omega) (by omega) (by rw [← ha]; rfl)

theorem LangBack : quarrellaw11_LangBack.Pure := by
  intro l b n _ _ _ hw _
  have hb := bytesB hw
  obtain ⟨K, hK⟩ : ∃ K : Nat, 999 ≤ K := ⟨999, Nat.le_refl _⟩
  refine ⟨K + 1, ?_⟩
  unfold quarrellaw11_LangBack.f
  rw [alive_f _ (by omega)]
  simp only [Option.bind_some, if_true]
  by_cases h0 : (l.length : Int) > 100
  · rw [if_pos h0]
    simp only [quarrellaw11_LangBack.j0, if_true]
  rw [if_neg h0]
  by_cases h1 : (b.length : Int) > 300
  · rw [if_pos h1]
    simp only [quarrellaw11_LangBack.j0, if_true]
  rw [if_neg h1]
  by_cases h2 : n > 8
  · rw [decide_eq_true h2]
    simp only [quarrellaw11_LangBack.j0, if_true]
  rw [decide_eq_false h2]
  simp only [quarrellaw11_LangBack.j0]
  rw [if_neg (by simp)]
  have := back_loop l b n hb (by omega) (by omega) (by omega) l.length K 0 true (by omega) (by omega) (by simp)
  simpa using this
end Go.Proofs.Ytgefdpmhdidnnaa.Pure
