/- The law's statement over numbers and lists. -/
import Derived.Test.YtlihbdinghoeeaaPx16
import Derived.Test.YtlihbdinghoeeaaHOps
namespace Go.Proofs.Ytlihbdinghoeeaa.P
open Go.RowKit Go.Proofs.YtlihbdinghoeeaaW.PrintWords Go.Proofs.YtlihbdinghoeeaaW.PrintLast Go.Proofs.YtlihbdinghoeeaaW.PrintMore
def stolonlaw10_QuerierOne.Pure : Prop := ∀ (x0 : S42), (wf42 x0) → ∃ k, stolonlaw10_QuerierOne.f k x0.f0.f0 x0.f0.f1 x0.f0.f2 x0.f0.f3 x0.f1 x0.f2 x0.f3 = some true
end Go.Proofs.Ytlihbdinghoeeaa.P
