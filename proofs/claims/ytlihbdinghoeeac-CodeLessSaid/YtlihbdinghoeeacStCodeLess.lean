/- The law's statement over numbers and lists. -/
import Derived.Test.YtlihbdinghoeeacPx12
import Derived.Test.YtlihbdinghoeeacHOps
namespace Go.Proofs.Ytlihbdinghoeeac.P
open Go.RowKit Go.Proofs.YtlihbdinghoeeacW.PrintWords Go.Proofs.YtlihbdinghoeeacW.PrintLast Go.Proofs.YtlihbdinghoeeacW.PrintMore
def stolonlaw03_CodeLess.Pure : Prop := ∀ (x0 : Int) (x1 : Int), ((Lit.int .i64 x0).wf = true) → ((Lit.int .i64 x1).wf = true) → ∃ k, stolonlaw03_CodeLess.f k x0 x1 = some true
end Go.Proofs.Ytlihbdinghoeeac.P
