/- The law's statement over numbers and lists. -/
import Derived.Test.YticjabdkjjbegaaPx19
import Derived.Test.YticjabdkjjbegaaHOps
namespace Go.Proofs.Yticjabdkjjbegaa.P
open Go.RowKit Go.Proofs.YticjabdkjjbegaaW.PrintWords Go.Proofs.YticjabdkjjbegaaW.PrintLast Go.Proofs.YticjabdkjjbegaaW.PrintMore
def stolonlaw11_GraphSets.Pure : Prop := ∀ (x0 : S24) (x1 : Int) (x2 : Bool), (wf24 x0) → ((Lit.int .i64 x1).wf = true) → ∃ k, stolonlaw11_GraphSets.f k x0.f0 x0.f1 x1 x2 = some true
end Go.Proofs.Yticjabdkjjbegaa.P
