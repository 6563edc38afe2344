/- The law's statement over numbers and lists. -/
import Derived.Test.YtlihbdinghoeeaaPx18
import Derived.Test.YtlihbdinghoeeaaHOps
namespace Go.Proofs.Ytlihbdinghoeeaa.P
open Go.RowKit Go.Proofs.YtlihbdinghoeeaaW.PrintWords Go.Proofs.YtlihbdinghoeeaaW.PrintLast Go.Proofs.YtlihbdinghoeeaaW.PrintMore
def stolonlaw10_QuerierLeast.Pure : Prop := ∀ (x0 : S23) (x1 : Int) (x2 : List Int), (wf23 x0) → ((Lit.int .u32 x1).wf = true) → (x2.length * 4 ≤ 140737488351232 ∧ x2.length ≤ maxLen ∧ ∀ y ∈ x2, (Lit.int .u32 y).wf = true) → ∃ k, stolonlaw10_QuerierLeast.f k x0.f0 x0.f1 x0.f2 x0.f3 x1 x2 = some true
end Go.Proofs.Ytlihbdinghoeeaa.P
