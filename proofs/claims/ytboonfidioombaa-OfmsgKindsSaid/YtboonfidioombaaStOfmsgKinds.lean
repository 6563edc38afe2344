/- The law's statement over numbers and lists. -/
import Derived.Test.YtboonfidioombaaPx37
import Derived.Test.YtboonfidioombaaHOps
namespace Go.Proofs.Ytboonfidioombaa.P
open Go.RowKit Go.Proofs.YtboonfidioombaaW.PrintWords Go.Proofs.YtboonfidioombaaW.PrintLast Go.Proofs.YtboonfidioombaaW.PrintMore
def stolonlaw16_OfmsgKinds.Pure : Prop := ∀ (x0 : Int) (x1 : Int), ((Lit.int .u8 x0).wf = true) → ((Lit.int .u32 x1).wf = true) → ∃ k, stolonlaw16_OfmsgKinds.f k x0 x1 = some true
end Go.Proofs.Ytboonfidioombaa.P
