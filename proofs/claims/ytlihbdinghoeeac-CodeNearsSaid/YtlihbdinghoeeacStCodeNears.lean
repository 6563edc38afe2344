/- The law's statement over numbers and lists. -/
import Derived.Test.YtlihbdinghoeeacPx9
import Derived.Test.YtlihbdinghoeeacHOps
namespace Go.Proofs.Ytlihbdinghoeeac.P
open Go.RowKit Go.Proofs.YtlihbdinghoeeacW.PrintWords Go.Proofs.YtlihbdinghoeeacW.PrintLast Go.Proofs.YtlihbdinghoeeacW.PrintMore
def stolonlaw03_CodeNears.Pure : Prop := ∀ (x0 : Int), ((Lit.int .u16 x0).wf = true) → ∃ k, stolonlaw03_CodeNears.f k x0 = some true
end Go.Proofs.Ytlihbdinghoeeac.P
