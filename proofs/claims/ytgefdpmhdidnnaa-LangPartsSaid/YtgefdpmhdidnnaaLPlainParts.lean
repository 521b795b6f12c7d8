/- Plain laws: what is got of what was put, whatever it is: operations cut to bytes. Conditions: none but lengths. -/
import Derived.Test.YtgefdpmhdidnnaaLPlainPut
namespace Go.Proofs.Ytgefdpmhdidnnaa.L
open Go.RowKit Go.Proofs.YtgefdpmhdidnnaaW.PrintWords

/-- An operation, cut to its bytes. -/
def tr (o : S33) : S33 := ⟨o.f0 % 256, o.f1 % 256, sgn (o.f2 % 256)⟩
theorem get_putT (n : Int) : ∀ (l : List S33) (i : Int) (acc : List S33), (l.map tr).all (okB · n) = true → getL n (putL l) i acc = (acc ++ l.map tr, -1, 0) := by
  intro l
  induction l with
  | nil => intro i acc _; simp [putL, getL]
  | cons o l ih =>
    intro i acc h
    simp only [List.map_cons, List.all_cons, Bool.and_eq_true] at h
    show getL n ((o.f0 % 256) :: (o.f1 % 256) :: (o.f2 % 256) :: putL l) i acc = _
    simp only [getL]
    rw [if_pos (show okB ⟨o.f0 % 256, o.f1 % 256, sgn (o.f2 % 256)⟩ n = true from h.1), ih _ _ h.2]
    simp [tr]
theorem get_putF (n : Int) : ∀ (l : List S33) (i : Int) (acc : List S33), (l.map tr).all (okB · n) = false → ∃ m : Nat, m < l.length ∧ getL n (putL l) i acc = ([], i + 3 * (m : Int), 3) := by
  intro l
  induction l with
  | nil => intro i acc h; simp at h
  | cons o l ih =>
    intro i acc h
    simp only [List.map_cons, List.all_cons] at h
    show ∃ m : Nat, _ ∧ getL n ((o.f0 % 256) :: (o.f1 % 256) :: (o.f2 % 256) :: putL l) i acc = _
    simp only [getL]
    by_cases ho : okB (tr o) n = true
    · rw [ho, Bool.true_and] at h
      rw [if_pos (show okB ⟨o.f0 % 256, o.f1 % 256, sgn (o.f2 % 256)⟩ n = true from ho)]
      obtain ⟨m, hm, he⟩ := ih (i + 3) (acc ++ [tr o]) h
      refine ⟨m + 1, by simp; omega, ?_⟩
      show getL n (putL l) (i + 3) (acc ++ [tr o]) = _
      rw [he]
      congr 2
      omega
    · rw [if_neg (show ¬ okB ⟨o.f0 % 256, o.f1 % 256, sgn (o.f2 % 256)⟩ n = true from ho)]
      exact ⟨0, by simp, by simp⟩
theorem getP_f (n : Int) (l : List S33) (hm : l.length ≤ 200) (k : Nat) (hk : 999 ≤ k) : lang_Get.f k (putL l) n = some (getL n (putL l) 0 []) :=
  get_f n (putL l) (putL_bytes l) (by rw [putL_len]; omega) k (by rw [putL_len]; omega)
end Go.Proofs.Ytgefdpmhdidnnaa.L
