/- The law's statement over numbers and lists. -/
import Derived.Test.YtboonfidioombaaPx32
import Derived.Test.YtboonfidioombaaHOps
namespace Go.Proofs.Ytboonfidioombaa.P
open Go.RowKit Go.Proofs.YtboonfidioombaaW.PrintWords Go.Proofs.YtboonfidioombaaW.PrintLast Go.Proofs.YtboonfidioombaaW.PrintMore
def stolonlaw16_OfmsgReads.Pure : Prop := ∀ (x0 : List Int), (x0.length * 1 ≤ 140737488351232 ∧ x0.length ≤ maxLen ∧ ∀ y ∈ x0, (Lit.int .u8 y).wf = true) → ∃ k, stolonlaw16_OfmsgReads.f k x0 = some true
end Go.Proofs.Ytboonfidioombaa.P
