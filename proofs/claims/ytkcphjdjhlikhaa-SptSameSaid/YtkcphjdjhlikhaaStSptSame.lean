/- The law's statement over numbers and lists. -/
import Derived.Test.YtkcphjdjhlikhaaPx17
import Derived.Test.YtkcphjdjhlikhaaHOps
namespace Go.Proofs.Ytkcphjdjhlikhaa.P
open Go.RowKit Go.Proofs.YtkcphjdjhlikhaaW.PrintWords Go.Proofs.YtkcphjdjhlikhaaW.PrintLast Go.Proofs.YtkcphjdjhlikhaaW.PrintMore
def stolonlaw13_SptSame.Pure : Prop := ∀ (x0 : S29) (x1 : S29), (wf29 x0) → (wf29 x1) → ∃ k, stolonlaw13_SptSame.f k x0.f0 x0.f1 x1.f0 x1.f1 = some true
end Go.Proofs.Ytkcphjdjhlikhaa.P
