/- The law's statement over numbers and lists. -/
import Derived.Test.YtboonfidioombaaPx34
import Derived.Test.YtboonfidioombaaHOps
namespace Go.Proofs.Ytboonfidioombaa.P
open Go.RowKit Go.Proofs.YtboonfidioombaaW.PrintWords Go.Proofs.YtboonfidioombaaW.PrintLast Go.Proofs.YtboonfidioombaaW.PrintMore
def stolonlaw16_OfmsgStreams.Pure : Prop := ∀ (x0 : List (S29)) (x1 : Int), (x0.length * 104 ≤ 140737488351232 ∧ x0.length ≤ maxLen ∧ ∀ y ∈ x0, wf29 y) → ((Lit.int .i64 x1).wf = true) → ∃ k, stolonlaw16_OfmsgStreams.f k x0 x1 = some true
end Go.Proofs.Ytboonfidioombaa.P
