/- The law's statement over numbers and lists. -/
import Derived.Test.YtboonfidioombaaPx33
import Derived.Test.YtboonfidioombaaHOps
namespace Go.Proofs.Ytboonfidioombaa.P
open Go.RowKit Go.Proofs.YtboonfidioombaaW.PrintWords Go.Proofs.YtboonfidioombaaW.PrintLast Go.Proofs.YtboonfidioombaaW.PrintMore
def stolonlaw16_OfmsgBack.Pure : Prop := ∀ (x0 : S29) (x1 : List Int), (wf29 x0) → (x1.length * 1 ≤ 140737488351232 ∧ x1.length ≤ maxLen ∧ ∀ y ∈ x1, (Lit.int .u8 y).wf = true) → ∃ k, stolonlaw16_OfmsgBack.f k x0.f0 x0.f1 x0.f2.f0 x0.f2.f1 x0.f2.f2 x0.f2.f3 x0.f2.f4 x0.f2.f5 x0.f3 x0.f4 x0.f5 x1 = some true
end Go.Proofs.Ytboonfidioombaa.P
