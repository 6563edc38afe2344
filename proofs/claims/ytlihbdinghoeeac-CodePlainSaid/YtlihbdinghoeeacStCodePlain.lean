/- The law's statement over numbers and lists. -/
import Derived.Test.YtlihbdinghoeeacPx10
import Derived.Test.YtlihbdinghoeeacHOps
namespace Go.Proofs.Ytlihbdinghoeeac.P
open Go.RowKit Go.Proofs.YtlihbdinghoeeacW.PrintWords Go.Proofs.YtlihbdinghoeeacW.PrintLast Go.Proofs.YtlihbdinghoeeacW.PrintMore
def stolonlaw03_CodePlain.Pure : Prop := ∀ (x0 : Int) (x1 : Int), ((Lit.int .u8 x0).wf = true) → ((Lit.int .u16 x1).wf = true) → ∃ k, stolonlaw03_CodePlain.f k x0 x1 = some true
end Go.Proofs.Ytlihbdinghoeeac.P
