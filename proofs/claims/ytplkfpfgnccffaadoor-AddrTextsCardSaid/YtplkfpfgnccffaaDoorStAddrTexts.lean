/- The law's statement over numbers and lists. -/
import Derived.Test.YtplkfpfgnccffaaDoorPx7
import Derived.Test.YtplkfpfgnccffaaDoorHOps
namespace Go.Proofs.YtplkfpfgnccffaaDoor.P
open Go.RowKit Go.Proofs.YtplkfpfgnccffaaDoorW.PrintWords Go.Proofs.YtplkfpfgnccffaaDoorW.PrintLast Go.Proofs.YtplkfpfgnccffaaDoorW.PrintMore
def stolonlaw01_AddrTexts.Pure : Prop := ∀ (x0 : S38), (wf38 x0) → ∃ k, stolonlaw01_AddrTexts.f k x0.f0 x0.f1 x0.f2 x0.f3 x0.f4 = some true
end Go.Proofs.YtplkfpfgnccffaaDoor.P
