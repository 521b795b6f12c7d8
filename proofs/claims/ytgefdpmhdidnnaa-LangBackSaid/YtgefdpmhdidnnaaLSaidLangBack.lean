/- The pure statement of the law LangBack, over numbers and lists. Written by a program of this session. -/
import Derived.Test.YtgefdpmhdidnnaaLx14
import Derived.Test.YtgefdpmhdidnnaaLArgs
namespace Go.Proofs.Ytgefdpmhdidnnaa.L
def quarrellaw11_LangBack.Pure : Prop := ∀ (l0 : List (S33)) (l1 : List Int) (a2 : Int), l0.length ≤ 9223372036854775807 → (∀ a0 ∈ l0, WF33 a0) → l1.length ≤ 9223372036854775807 → (∀ a0 ∈ l1, (Lit.int .u8 a0).wf = true) → (Lit.int .i64 a2).wf = true → ∃ k, quarrellaw11_LangBack.f k l0 l1 a2 = some true
end Go.Proofs.Ytgefdpmhdidnnaa.L
