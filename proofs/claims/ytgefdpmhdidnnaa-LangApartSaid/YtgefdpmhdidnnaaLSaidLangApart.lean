/- The pure statement of the law LangApart, over numbers and lists. Written by a program of this session. -/
import Derived.Test.YtgefdpmhdidnnaaLx8
import Derived.Test.YtgefdpmhdidnnaaLArgs
namespace Go.Proofs.Ytgefdpmhdidnnaa.L
def quarrellaw11_LangApart.Pure : Prop := ∀ (l0 : List (S33)) (l1 : List Int) (a2 : Int) (a3 : Int), l0.length ≤ 9223372036854775807 → (∀ a0 ∈ l0, WF33 a0) → l1.length ≤ 9223372036854775807 → (∀ a0 ∈ l1, (Lit.int .i64 a0).wf = true) → (Lit.int .u8 a2).wf = true → (Lit.int .i64 a3).wf = true → ∃ k, quarrellaw11_LangApart.f k l0 l1 a2 a3 = some true
end Go.Proofs.Ytgefdpmhdidnnaa.L
