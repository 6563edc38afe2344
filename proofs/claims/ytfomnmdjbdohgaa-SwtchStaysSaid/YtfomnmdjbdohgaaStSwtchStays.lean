/- The law's statement over numbers and lists. -/
import Derived.Test.YtfomnmdjbdohgaaPx30
import Derived.Test.YtfomnmdjbdohgaaHOps
namespace Go.Proofs.Ytfomnmdjbdohgaa.P
open Go.RowKit Go.Proofs.YtfomnmdjbdohgaaW.PrintWords Go.Proofs.YtfomnmdjbdohgaaW.PrintLast Go.Proofs.YtfomnmdjbdohgaaW.PrintMore
def stolonlaw17_SwtchStays.Pure : Prop := ∀ (x0 : S24) (x1 : List (S32)), (wf24 x0) → (x1.length * 104 ≤ 140737488351232 ∧ x1.length ≤ maxLen ∧ ∀ y ∈ x1, wf32 y) → ∃ k, stolonlaw17_SwtchStays.f k x0.f0 x0.f1 x1 = some true
end Go.Proofs.Ytfomnmdjbdohgaa.P
