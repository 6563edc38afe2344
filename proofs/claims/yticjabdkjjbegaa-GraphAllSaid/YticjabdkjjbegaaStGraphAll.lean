/- The law's statement over numbers and lists. -/
import Derived.Test.YticjabdkjjbegaaPx15
import Derived.Test.YticjabdkjjbegaaHOps
namespace Go.Proofs.Yticjabdkjjbegaa.P
open Go.RowKit Go.Proofs.YticjabdkjjbegaaW.PrintWords Go.Proofs.YticjabdkjjbegaaW.PrintLast Go.Proofs.YticjabdkjjbegaaW.PrintMore
def stolonlaw11_GraphAll.Pure : Prop := ∀ (x0 : S24) (x1 : Int), (wf24 x0) → ((Lit.int .i64 x1).wf = true) → ∃ k, stolonlaw11_GraphAll.f k x0.f0 x0.f1 x1 = some true
end Go.Proofs.Yticjabdkjjbegaa.P
