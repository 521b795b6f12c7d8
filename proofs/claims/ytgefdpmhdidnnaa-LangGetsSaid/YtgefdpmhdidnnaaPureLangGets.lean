/- The pure statement of the law LangGets: the operations of any bytes, or the place and the error, are the document's. -/
import Derived.Test.YtgefdpmhdidnnaaLx13
import Derived.Test.YtgefdpmhdidnnaaLPlainGet
namespace Go.Proofs.Ytgefdpmhdidnnaa.Pure
open Go.RowKit Go.Proofs.Ytgefdpmhdidnnaa.L Go.Proofs.YtgefdpmhdidnnaaW.PrintWords

theorem bytes_of_wf {b : List Int} (h : ∀ x ∈ b, (Lit.int .u8 x).wf = true) : isBytes b := by
  intro x hx
  have := h x hx
  simp [Lit.wf, IntKind.min, IntKind.max, IntKind.signed, IntKind.bits] at this
  omega
theorem getL_len (n : Int) : ∀ (m : Nat) (b : List Int) (i : Int) (acc : List S33), b.length ≤ m → (getL n b i acc).1.length ≤ acc.length + b.length := by
  intro m
  induction m with
  | zero =>
    intro b i acc h
    have : b = [] := List.eq_nil_of_length_eq_zero (by omega)
    subst this
    simp [getL]
  | succ m ih =>
    intro b i acc h
    match b, h with
    | [], _ => simp [getL]
    | [_], _ => simp [getL]
    | [_, _], _ => simp [getL]
    | x :: y :: z :: t, h =>
      simp only [getL]
      split
      · refine Nat.le_trans (ih t _ _ (by simp at h; omega)) (by simp; omega)
      · simp

theorem LangGets : quarrellaw11_LangGets.Pure := by
  intro l0 n _ _ hw _
  have hb := bytes_of_wf hw
  obtain ⟨K, hK⟩ : ∃ K : Nat, 999 ≤ K := ⟨999, Nat.le_refl _⟩
  refine ⟨K, ?_⟩
  unfold quarrellaw11_LangGets.f
  rw [alive_f _ (by omega)]
  simp only [Option.bind_some, if_true]
  by_cases h0 : (l0.length : Int) > 300
  · rw [if_pos h0]
  rw [if_neg h0]
  simp only [List.length_nil, Nat.zero_add, List.nil_append]
  rw [if_pos (by omega), get_f n l0 hb (by omega) K (by omega), refGet_f n l0 hb (by omega) K (by omega)]
  simp only [Option.bind_some]
  have hl := getL_len n l0.length l0 0 [] (Nat.le_refl _)
  simp only [List.length_nil, Nat.zero_add] at hl
  obtain ⟨r, hr, hiff⟩ := same_f (getL n l0 0 []).1 (getL n l0 0 []).1 (by omega) K (by omega)
  rw [hr, hiff.2 rfl]
  simp
end Go.Proofs.Ytgefdpmhdidnnaa.Pure
