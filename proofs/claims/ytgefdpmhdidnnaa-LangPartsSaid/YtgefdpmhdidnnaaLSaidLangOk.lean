/- The pure statement of the law LangOk, over numbers and lists. Written by a program of this session. -/
import Derived.Test.YtgefdpmhdidnnaaLx11
import Derived.Test.YtgefdpmhdidnnaaLArgs
namespace Go.Proofs.Ytgefdpmhdidnnaa.L
def quarrellaw11_LangOk.Pure : Prop := ∀ (l0 : List (S33)) (x1 : S33) (a2 : Int) (a3 : Int), l0.length ≤ 9223372036854775807 → (∀ a0 ∈ l0, WF33 a0) → WF33 x1 → (Lit.int .i64 a2).wf = true → (Lit.int .i64 a3).wf = true → ∃ k, quarrellaw11_LangOk.f k l0 x1.f0 x1.f1 x1.f2 a2 a3 = some true
end Go.Proofs.Ytgefdpmhdidnnaa.L
