/- The law's statement over numbers and lists. -/
import Derived.Test.YteibolilodgjnaaPx19
import Derived.Test.YteibolilodgjnaaHOps
namespace Go.Proofs.Yteibolilodgjnaa.P
open Go.RowKit Go.Proofs.YteibolilodgjnaaW.PrintWords Go.Proofs.YteibolilodgjnaaW.PrintLast Go.Proofs.YteibolilodgjnaaW.PrintMore
def stolonlaw15_FlowKeeps.Pure : Prop := ∀ (x0 : List (S27)) (x1 : S27) (x2 : Int), (x0.length * 56 ≤ 140737488351232 ∧ x0.length ≤ maxLen ∧ ∀ y ∈ x0, wf27 y) → (wf27 x1) → ((Lit.int .i64 x2).wf = true) → ∃ k, stolonlaw15_FlowKeeps.f k x0 x1.f0 x1.f1 x1.f2 x1.f3 x1.f4 x1.f5 x2 = some true
end Go.Proofs.Yteibolilodgjnaa.P
