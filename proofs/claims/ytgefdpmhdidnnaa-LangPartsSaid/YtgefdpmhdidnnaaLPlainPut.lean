/- Plain laws: what Put comes to, and that Get and Put undo each other. Conditions: lengths, and objects at most 256. -/
import Derived.Test.YtgefdpmhdidnnaaLPlainGet
namespace Go.Proofs.Ytgefdpmhdidnnaa.L
open Go.RowKit Go.Proofs.YtgefdpmhdidnnaaW.PrintWords

def put3 (o : S33) : List Int := [o.f0 % 256, o.f1 % 256, o.f2 % 256]
def putL (l : List S33) : List Int := l.flatMap put3
theorem putL_len (l : List S33) : (putL l).length = 3 * l.length := by
  induction l with
  | nil => rfl
  | cons o l ih =>
    show (put3 o ++ putL l).length = _
    rw [List.length_append, ih]
    simp [put3]
    omega
theorem putL_append (a b : List S33) : putL (a ++ b) = putL a ++ putL b := by simp [putL]
theorem putL_bytes (l : List S33) : isBytes (putL l) := by
  intro x hx
  simp only [putL, List.mem_flatMap, put3] at hx
  obtain ⟨o, _, ho⟩ := hx
  simp at ho
  omega
theorem put_loop (l : List S33) (hm : l.length ≤ 1000000) : ∀ (d k i : Nat) (acc : List Int), i + d = l.length → d < k → acc.length = 3 * i →
    lang_Put.l0 k acc l (l.length : Int) (i : Int) = some (acc ++ putL (l.drop i)) := by
  intro d
  induction d with
  | zero =>
    intro k i acc hi hk ha
    obtain ⟨k, rfl⟩ : ∃ m, k = m + 1 := ⟨k - 1, by omega⟩
    simp only [lang_Put.l0]
    rw [if_neg (by omega), List.drop_of_length_le (by omega)]
    simp [putL]
  | succ d ih =>
    intro k i acc hi hk ha
    obtain ⟨k, rfl⟩ : ∃ m, k = m + 1 := ⟨k - 1, by omega⟩
    have hl : i < l.length := by omega
    simp only [lang_Put.l0, Option.bind_some]
    rw [if_pos (by omega), if_pos (by omega), if_pos (by omega), rd_T33_nat l i hl, w1 hl (by omega)]
    rw [if_pos (by simp; omega), ih k (i + 1) _ (by omega) (by omega) (by simp; omega), List.drop_eq_getElem_cons hl]
    show _ = some (acc ++ (put3 l[i] ++ putL (l.drop (i + 1))))
    rw [List.append_assoc]
    rfl
theorem put_f (l : List S33) (hm : l.length ≤ 1000000) (k : Nat) (hk : l.length < k) : lang_Put.f k l = some (putL l) := by
  unfold lang_Put.f
  have := put_loop l hm l.length k 0 [] (by omega) hk (by simp)
  simpa using this

theorem okB_mod (o : S33) (n : Int) (hn : n ≤ 256) (h : okB o n = true) : (⟨o.f0 % 256, o.f1 % 256, sgn (o.f2 % 256)⟩ : S33) = o := by
  obtain ⟨a, b, c⟩ := o
  have hk := okB_kind _ _ h
  unfold okB at h
  simp only at h hk ⊢
  by_cases h1 : a = 1 ∨ a = 2 ∨ a = 5
  · rw [if_pos h1] at h
    simp at h
    obtain ⟨⟨h2, h3⟩, rfl⟩ := h
    have e1 : a % 256 = a := by omega
    have e2 : b % 256 = b := by omega
    rw [e1, e2]
    rfl
  · rw [if_neg h1, if_pos (by omega)] at h
    simp at h
    obtain ⟨⟨rfl, h3⟩, h4⟩ := h
    have e1 : a % 256 = a := by omega
    have e2 : sgn (c % 256) = c := by unfold sgn; split <;> omega
    rw [e1, e2]
    rfl
theorem get_put (n : Int) (hn : n ≤ 256) : ∀ (l : List S33) (i : Int) (acc : List S33), (∀ o ∈ l, okB o n = true) → getL n (putL l) i acc = (acc ++ l, -1, 0) := by
  intro l
  induction l with
  | nil => intro i acc _; simp [putL, getL]
  | cons o l ih =>
    intro i acc h
    have ho := h o (by simp)
    have e := okB_mod o n hn ho
    show getL n ((o.f0 % 256) :: (o.f1 % 256) :: (o.f2 % 256) :: putL l) i acc = _
    simp only [getL]
    rw [e, if_pos ho, ih _ _ (fun x hx => h x (by simp [hx]))]
    simp
theorem sgn_mod {c : Int} (h : 0 ≤ c ∧ c ≤ 255) : sgn c % 256 = c := by unfold sgn; split <;> omega
theorem put_get (n : Int) : ∀ (m : Nat) (b : List Int) (i : Int) (acc : List S33), b.length ≤ m → isBytes b → (getL n b i acc).2.2 = 0 → putL (getL n b i acc).1 = putL acc ++ b := by
  intro m
  induction m with
  | zero =>
    intro b i acc h _ _
    have : b = [] := List.eq_nil_of_length_eq_zero (by omega)
    subst this
    simp [getL]
  | succ m ih =>
    intro b i acc h hb he
    match b, h, hb, he with
    | [], _, _, _ => simp [getL]
    | [_], _, _, he => simp [getL] at he
    | [_, _], _, _, he => simp [getL] at he
    | x :: y :: z :: t, h, hb, he =>
      simp only [getL] at he ⊢
      have hx := hb x (by simp)
      have hy := hb y (by simp)
      have hz := hb z (by simp)
      by_cases ho : okB ⟨x, y, sgn z⟩ n = true
      · rw [if_pos ho] at he ⊢
        rw [ih t _ _ (by simp at h; omega) (fun q hq => hb q (by simp [hq])) he, putL_append]
        have e1 : x % 256 = x := by omega
        have e2 : y % 256 = y := by omega
        have e3 := sgn_mod hz
        simp [putL, put3, e1, e2, e3]
      · rw [if_neg ho] at he
        simp at he
end Go.Proofs.Ytgefdpmhdidnnaa.L
