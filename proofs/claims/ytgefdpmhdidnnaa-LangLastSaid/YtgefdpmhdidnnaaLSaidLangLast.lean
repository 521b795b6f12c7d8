/- The pure statement of the law LangLast, over numbers and lists. Written by a program of this session. -/
import Derived.Test.YtgefdpmhdidnnaaLx9
import Derived.Test.YtgefdpmhdidnnaaLArgs
namespace Go.Proofs.Ytgefdpmhdidnnaa.L
def quarrellaw11_LangLast.Pure : Prop := ∀ (l0 : List (S33)) (l1 : List Int), l0.length ≤ 9223372036854775807 → (∀ a0 ∈ l0, WF33 a0) → l1.length ≤ 9223372036854775807 → (∀ a0 ∈ l1, (Lit.int .i64 a0).wf = true) → ∃ k, quarrellaw11_LangLast.f k l0 l1 = some true
end Go.Proofs.Ytgefdpmhdidnnaa.L
