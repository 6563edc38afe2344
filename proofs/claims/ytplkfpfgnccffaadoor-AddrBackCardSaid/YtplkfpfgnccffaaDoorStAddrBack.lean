/- The law's statement over numbers and lists. -/
import Derived.Test.YtplkfpfgnccffaaDoorPx6
import Derived.Test.YtplkfpfgnccffaaDoorHOps
namespace Go.Proofs.YtplkfpfgnccffaaDoor.P
open Go.RowKit Go.Proofs.YtplkfpfgnccffaaDoorW.PrintWords Go.Proofs.YtplkfpfgnccffaaDoorW.PrintLast Go.Proofs.YtplkfpfgnccffaaDoorW.PrintMore
def stolonlaw01_AddrBack.Pure : Prop := ∀ (x0 : Int) (x1 : ByteArray), ((Lit.int .u32 x0).wf = true) → (x1.size ≤ 140737488351232) → ∃ k, stolonlaw01_AddrBack.f k x0 x1 = some true
end Go.Proofs.YtplkfpfgnccffaaDoor.P
