/- The law's statement over numbers and lists. -/
import Derived.Test.YteibolilodgjnaaPx25
import Derived.Test.YteibolilodgjnaaHOps
namespace Go.Proofs.Yteibolilodgjnaa.P
open Go.RowKit Go.Proofs.YteibolilodgjnaaW.PrintWords Go.Proofs.YteibolilodgjnaaW.PrintLast Go.Proofs.YteibolilodgjnaaW.PrintMore
def stolonlaw15_FlowTables.Pure : Prop := ∀ (x0 : S47), (wf47 x0) → ∃ k, stolonlaw15_FlowTables.f k x0.f0 x0.f1.f0 x0.f1.f1 x0.f1.f2 x0.f1.f3 x0.f1.f4 x0.f1.f5 x0.f2.f0 x0.f2.f1 x0.f2.f2 x0.f2.f3 x0.f2.f4 x0.f2.f5 x0.f3 = some true
end Go.Proofs.Yteibolilodgjnaa.P
