/- The law's statement over numbers and lists. -/
import Derived.Test.YtplkfpfgnccffaaDoorPx12
import Derived.Test.YtplkfpfgnccffaaDoorHOps
namespace Go.Proofs.YtplkfpfgnccffaaDoor.P
open Go.RowKit Go.Proofs.YtplkfpfgnccffaaDoorW.PrintWords Go.Proofs.YtplkfpfgnccffaaDoorW.PrintLast Go.Proofs.YtplkfpfgnccffaaDoorW.PrintMore
def stolonlaw01_AddrOrder.Pure : Prop := ∀ (x0 : Int) (x1 : Int) (x2 : Int), ((Lit.int .u32 x0).wf = true) → ((Lit.int .u32 x1).wf = true) → ((Lit.int .u32 x2).wf = true) → ∃ k, stolonlaw01_AddrOrder.f k x0 x1 x2 = some true
end Go.Proofs.YtplkfpfgnccffaaDoor.P
