/- The law's statement over numbers and lists. -/
import Derived.Test.YticjabdkjjbegaaPx12
import Derived.Test.YticjabdkjjbegaaHOps
namespace Go.Proofs.Yticjabdkjjbegaa.P
open Go.RowKit Go.Proofs.YticjabdkjjbegaaW.PrintWords Go.Proofs.YticjabdkjjbegaaW.PrintLast Go.Proofs.YticjabdkjjbegaaW.PrintMore
def stolonlaw11_GraphTrees.Pure : Prop := ∀ (x0 : S24) (x1 : List Int) (x2 : Int), (wf24 x0) → (x1.length * 8 ≤ 140737488351232 ∧ x1.length ≤ maxLen ∧ ∀ y ∈ x1, (Lit.int .i64 y).wf = true) → ((Lit.int .i64 x2).wf = true) → ∃ k, stolonlaw11_GraphTrees.f k x0.f0 x0.f1 x1 x2 = some true
end Go.Proofs.Yticjabdkjjbegaa.P
