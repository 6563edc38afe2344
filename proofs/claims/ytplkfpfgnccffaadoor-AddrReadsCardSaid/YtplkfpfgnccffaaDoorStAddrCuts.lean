/- The law's statement over numbers and lists. -/
import Derived.Test.YtplkfpfgnccffaaDoorPx9
import Derived.Test.YtplkfpfgnccffaaDoorHOps
namespace Go.Proofs.YtplkfpfgnccffaaDoor.P
open Go.RowKit Go.Proofs.YtplkfpfgnccffaaDoorW.PrintWords Go.Proofs.YtplkfpfgnccffaaDoorW.PrintLast Go.Proofs.YtplkfpfgnccffaaDoorW.PrintMore
def stolonlaw01_AddrCuts.Pure : Prop := ∀ (x0 : List Int), (x0.length * 1 ≤ 140737488351232 ∧ x0.length ≤ maxLen ∧ ∀ y ∈ x0, (Lit.int .u8 y).wf = true) → ∃ k, stolonlaw01_AddrCuts.f k x0 = some true
end Go.Proofs.YtplkfpfgnccffaaDoor.P
