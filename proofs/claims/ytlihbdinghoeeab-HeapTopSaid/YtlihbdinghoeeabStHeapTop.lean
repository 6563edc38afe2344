/- The law's statement over numbers and lists. -/
import Derived.Test.YtlihbdinghoeeabPx15
import Derived.Test.YtlihbdinghoeeabHOps
namespace Go.Proofs.Ytlihbdinghoeeab.P
open Go.RowKit Go.Proofs.YtlihbdinghoeeabW.PrintWords Go.Proofs.YtlihbdinghoeeabW.PrintLast Go.Proofs.YtlihbdinghoeeabW.PrintMore
def stolonlaw12_HeapTop.Pure : Prop := ∀ (x0 : List (S24)) (x1 : S24), (x0.length * 16 ≤ 140737488351232 ∧ x0.length ≤ maxLen ∧ ∀ y ∈ x0, wf24 y) → (wf24 x1) → ∃ k, stolonlaw12_HeapTop.f k x0 x1.f0 x1.f1 = some true
end Go.Proofs.Ytlihbdinghoeeab.P
