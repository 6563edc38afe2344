/- The law's statement over numbers and lists. -/
import Derived.Test.YtfomnmdjbdohgaaPx33
import Derived.Test.YtfomnmdjbdohgaaHOps
namespace Go.Proofs.Ytfomnmdjbdohgaa.P
open Go.RowKit Go.Proofs.YtfomnmdjbdohgaaW.PrintWords Go.Proofs.YtfomnmdjbdohgaaW.PrintLast Go.Proofs.YtfomnmdjbdohgaaW.PrintMore
def stolonlaw17_SwtchOdd.Pure : Prop := ∀ (x0 : S24) (x1 : S32), (wf24 x0) → (wf32 x1) → ∃ k, stolonlaw17_SwtchOdd.f k x0.f0 x0.f1 x1.f0 x1.f1 x1.f2.f0 x1.f2.f1 x1.f2.f2 x1.f2.f3 x1.f2.f4 x1.f2.f5 x1.f3 x1.f4 x1.f5 = some true
end Go.Proofs.Ytfomnmdjbdohgaa.P
