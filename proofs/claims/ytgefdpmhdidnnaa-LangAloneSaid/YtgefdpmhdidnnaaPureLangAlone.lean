/- The pure statement of the law LangAlone: what the program's Alone comes to is what the document's comes to; for every list of operations and values. -/
import Derived.Test.YtgefdpmhdidnnaaLSaidLangAlone
import Derived.Test.YtgefdpmhdidnnaaLPlain
namespace Go.Proofs.Ytgefdpmhdidnnaa.Pure
open Go.RowKit Go.Proofs.Ytgefdpmhdidnnaa.L Go.Proofs.YtgefdpmhdidnnaaW.PrintWords

theorem LangAlone : quarrellaw11_LangAlone.Pure := by
  intro l0 l1 _ _ _ _
  refine ⟨199 + 1, ?_⟩
  unfold quarrellaw11_LangAlone.f
  rw [alive_f _ (by omega)]
  simp only [Option.bind_some, if_true]
  by_cases h0 : (l0.length : Int) > 50
  · rw [if_pos h0]
    simp only [quarrellaw11_LangAlone.j0, if_true]
  rw [if_neg h0]
  by_cases h1 : (l1.length : Int) > 50
  · rw [decide_eq_true h1]
    simp only [quarrellaw11_LangAlone.j0, if_true]
  rw [decide_eq_false h1]
  simp only [quarrellaw11_LangAlone.j0, Option.bind_some, List.length_nil, Nat.zero_add, List.nil_append]
  rw [if_neg (by simp), if_pos (by omega), langAlone_f l0 l1 (by omega)]
  simp only [Option.bind_some]
  rw [vals_f l1 l1 (by omega) 199 (by omega)]
  simp only [Option.bind_some, decide_true, if_true]
  rw [right_f l0 _ (by omega) 199 (by omega)]
  simp only [Option.bind_some]
  by_cases hr : rightB l0 (l1.length : Int) = true
  · rw [if_pos hr]
    simp only [if_pos hr, if_true]
    rw [alone_f l0 l1 (by omega) (by omega) hr 199 (by omega)]
    simp only [Option.bind_some]
    rw [vals_f _ _ (by rw [foldA_len]; simp only; omega) 199 (by rw [foldA_len]; simp only; omega)]
    simp
  · rw [if_neg hr]
    simp only [if_neg hr]
    simp
end Go.Proofs.Ytgefdpmhdidnnaa.Pure
