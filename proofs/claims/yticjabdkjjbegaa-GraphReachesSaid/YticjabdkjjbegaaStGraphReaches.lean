/- The law's statement over numbers and lists. -/
import Derived.Test.YticjabdkjjbegaaPx17
import Derived.Test.YticjabdkjjbegaaHOps
namespace Go.Proofs.Yticjabdkjjbegaa.P
open Go.RowKit Go.Proofs.YticjabdkjjbegaaW.PrintWords Go.Proofs.YticjabdkjjbegaaW.PrintLast Go.Proofs.YticjabdkjjbegaaW.PrintMore
def stolonlaw11_GraphReaches.Pure : Prop := ∀ (x0 : S46), (wf46 x0) → ∃ k, stolonlaw11_GraphReaches.f k x0.f0.f0 x0.f0.f1 x0.f1 x0.f2 x0.f3 = some true
end Go.Proofs.Yticjabdkjjbegaa.P
