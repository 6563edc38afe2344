/- The law's statement over numbers and lists. -/
import Derived.Test.YtlihbdinghoeeabPx26
import Derived.Test.YtlihbdinghoeeabHOps
namespace Go.Proofs.Ytlihbdinghoeeab.P
open Go.RowKit Go.Proofs.YtlihbdinghoeeabW.PrintWords Go.Proofs.YtlihbdinghoeeabW.PrintLast Go.Proofs.YtlihbdinghoeeabW.PrintMore
def stolonlaw12_HeapSorts.Pure : Prop := ∀ (x0 : List (S24)) (x1 : List (S24)), (x0.length * 16 ≤ 140737488351232 ∧ x0.length ≤ maxLen ∧ ∀ y ∈ x0, wf24 y) → (x1.length * 16 ≤ 140737488351232 ∧ x1.length ≤ maxLen ∧ ∀ y ∈ x1, wf24 y) → ∃ k, stolonlaw12_HeapSorts.f k x0 x1 = some true
end Go.Proofs.Ytlihbdinghoeeab.P
