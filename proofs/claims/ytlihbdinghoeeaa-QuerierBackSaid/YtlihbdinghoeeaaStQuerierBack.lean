/- The law's statement over numbers and lists. -/
import Derived.Test.YtlihbdinghoeeaaPx17
import Derived.Test.YtlihbdinghoeeaaHOps
namespace Go.Proofs.Ytlihbdinghoeeaa.P
open Go.RowKit Go.Proofs.YtlihbdinghoeeaaW.PrintWords Go.Proofs.YtlihbdinghoeeaaW.PrintLast Go.Proofs.YtlihbdinghoeeaaW.PrintMore
def stolonlaw10_QuerierBack.Pure : Prop := ∀ (x0 : S23) (x1 : S27) (x2 : Int), (wf23 x0) → (wf27 x1) → ((Lit.int .u32 x2).wf = true) → ∃ k, stolonlaw10_QuerierBack.f k x0.f0 x0.f1 x0.f2 x0.f3 x1.f0 x1.f1 x1.f2 x1.f3 x1.f4 x2 = some true
end Go.Proofs.Ytlihbdinghoeeaa.P
