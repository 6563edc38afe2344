/- The law's statement over numbers and lists. -/
import Derived.Test.YtlihbdinghoeeabPx14
import Derived.Test.YtlihbdinghoeeabHOps
namespace Go.Proofs.Ytlihbdinghoeeab.P
open Go.RowKit Go.Proofs.YtlihbdinghoeeabW.PrintWords Go.Proofs.YtlihbdinghoeeabW.PrintLast Go.Proofs.YtlihbdinghoeeabW.PrintMore
def stolonlaw12_HeapOrder.Pure : Prop := ∀ (x0 : S24) (x1 : S24) (x2 : S24), (wf24 x0) → (wf24 x1) → (wf24 x2) → ∃ k, stolonlaw12_HeapOrder.f k x0.f0 x0.f1 x1.f0 x1.f1 x2.f0 x2.f1 = some true
end Go.Proofs.Ytlihbdinghoeeab.P
