/- The law's statement over numbers and lists. -/
import Derived.Test.YtfomnmdjbdohgaaPx31
import Derived.Test.YtfomnmdjbdohgaaHOps
namespace Go.Proofs.Ytfomnmdjbdohgaa.P
open Go.RowKit Go.Proofs.YtfomnmdjbdohgaaW.PrintWords Go.Proofs.YtfomnmdjbdohgaaW.PrintLast Go.Proofs.YtfomnmdjbdohgaaW.PrintMore
def stolonlaw17_SwtchRoom.Pure : Prop := ∀ (x0 : S24) (x1 : S29) (x2 : Int), (wf24 x0) → (wf29 x1) → ((Lit.int .u32 x2).wf = true) → ∃ k, stolonlaw17_SwtchRoom.f k x0.f0 x0.f1 x1.f0 x1.f1 x1.f2 x1.f3 x1.f4 x1.f5 x2 = some true
end Go.Proofs.Ytfomnmdjbdohgaa.P
