/- The law's statement over numbers and lists. -/
import Derived.Test.YtboonfidioombaaPx26
import Derived.Test.YtboonfidioombaaHOps
namespace Go.Proofs.Ytboonfidioombaa.P
open Go.RowKit Go.Proofs.YtboonfidioombaaW.PrintWords Go.Proofs.YtboonfidioombaaW.PrintLast Go.Proofs.YtboonfidioombaaW.PrintMore
def stolonlaw16_OfmsgWrites.Pure : Prop := ∀ (x0 : S29) (x1 : S29), (wf29 x0) → (wf29 x1) → ∃ k, stolonlaw16_OfmsgWrites.f k x0.f0 x0.f1 x0.f2.f0 x0.f2.f1 x0.f2.f2 x0.f2.f3 x0.f2.f4 x0.f2.f5 x0.f3 x0.f4 x0.f5 x1.f0 x1.f1 x1.f2.f0 x1.f2.f1 x1.f2.f2 x1.f2.f3 x1.f2.f4 x1.f2.f5 x1.f3 x1.f4 x1.f5 = some true
end Go.Proofs.Ytboonfidioombaa.P
