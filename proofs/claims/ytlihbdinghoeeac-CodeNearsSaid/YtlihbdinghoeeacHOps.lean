/- What the laws' arguments read as. -/
import Derived.Test.YtlihbdinghoeeacPx0
import Derived.Test.YtlihbdinghoeeacHOpen
namespace Go.Proofs.Ytlihbdinghoeeac.P
open Go.RowKit Go.Proofs.YtlihbdinghoeeacW.PrintWords Go.Proofs.YtlihbdinghoeeacW.PrintLast Go.Proofs.YtlihbdinghoeeacW.PrintMore Go.Proofs.Ytlihbdinghoeeac.HOpen

end Go.Proofs.Ytlihbdinghoeeac.P
