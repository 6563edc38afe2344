/- The law's statement over numbers and lists. -/
import Derived.Test.YteibolilodgjnaaPx20
import Derived.Test.YteibolilodgjnaaHOps
namespace Go.Proofs.Yteibolilodgjnaa.P
open Go.RowKit Go.Proofs.YteibolilodgjnaaW.PrintWords Go.Proofs.YteibolilodgjnaaW.PrintLast Go.Proofs.YteibolilodgjnaaW.PrintMore
def stolonlaw15_FlowNone.Pure : Prop := ∀ (x0 : List (S27)) (x1 : Int) (x2 : S38), (x0.length * 56 ≤ 140737488351232 ∧ x0.length ≤ maxLen ∧ ∀ y ∈ x0, wf27 y) → ((Lit.int .i64 x1).wf = true) → (wf38 x2) → ∃ k, stolonlaw15_FlowNone.f k x0 x1 x2.f0 x2.f1 x2.f2 x2.f3 = some true
end Go.Proofs.Yteibolilodgjnaa.P
