/- The law's statement over numbers and lists. -/
import Derived.Test.YtplkfpfgnccffaaDoorPx5
import Derived.Test.YtplkfpfgnccffaaDoorHOps
namespace Go.Proofs.YtplkfpfgnccffaaDoor.P
open Go.RowKit Go.Proofs.YtplkfpfgnccffaaDoorW.PrintWords Go.Proofs.YtplkfpfgnccffaaDoorW.PrintLast Go.Proofs.YtplkfpfgnccffaaDoorW.PrintMore
def stolonlaw01_AddrReads.Pure : Prop := ∀ (x0 : ByteArray) (x1 : List Int), (x0.size ≤ 140737488351232) → (x1.length * 1 ≤ 140737488351232 ∧ x1.length ≤ maxLen ∧ ∀ y ∈ x1, (Lit.int .u8 y).wf = true) → ∃ k, stolonlaw01_AddrReads.f k x0 x1 = some true
end Go.Proofs.YtplkfpfgnccffaaDoor.P
