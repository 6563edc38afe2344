/- The law's statement over numbers and lists. -/
import Derived.Test.YtplkfpfgnccffaaDoorPx11
import Derived.Test.YtplkfpfgnccffaaDoorHOps
namespace Go.Proofs.YtplkfpfgnccffaaDoor.P
open Go.RowKit Go.Proofs.YtplkfpfgnccffaaDoorW.PrintWords Go.Proofs.YtplkfpfgnccffaaDoorW.PrintLast Go.Proofs.YtplkfpfgnccffaaDoorW.PrintMore
def stolonlaw01_AddrTells.Pure : Prop := ∀ (x0 : Int) (x1 : Int), ((Lit.int .u32 x0).wf = true) → ((Lit.int .u32 x1).wf = true) → ∃ k, stolonlaw01_AddrTells.f k x0 x1 = some true
end Go.Proofs.YtplkfpfgnccffaaDoor.P
