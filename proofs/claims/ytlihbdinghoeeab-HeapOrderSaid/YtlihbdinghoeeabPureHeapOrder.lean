/- HeapOrder over numbers and lists. -/
import Derived.Test.YtlihbdinghoeeabStHeapOrder
import Derived.Test.YtlihbdinghoeeabHpRef
namespace Go.Proofs.Ytlihbdinghoeeab.Pure
set_option linter.unusedVariables false
open Go.RowKit Go.Proofs.Ytlihbdinghoeeab.P Go.Proofs.YtlihbdinghoeeabW.PrintWords Go.Proofs.YtlihbdinghoeeabW.PrintLast Go.Proofs.YtlihbdinghoeeabW.PrintMore
theorem HeapOrder : stolonlaw12_HeapOrder.Pure := by
  intro a b c _ _ _
  have key : ∀ k, 20000 ≤ k → stolonlaw12_HeapOrder.j0 (k + 1) true false a.f0 a.f1 b.f0 b.f1 c.f0 c.f1 = some true := by
    intro k hk
    rw [stolonlaw12_HeapOrder.j0, if_neg (by simp), if_pos rfl, less_ok a b k (by omega), less_ok b c k (by omega), less_ok a c k (by omega)]
    simp only [Option.bind_some, decide_eq_true_eq]
    by_cases h1 : lt a b
    · rw [if_pos h1]
      by_cases h2 : lt b c
      · rw [if_pos h2]
        exact congrArg some (decide_eq_true (lt_trans h1 h2))
      · rw [if_neg h2]
    · rw [if_neg h1]
  refine ⟨20000 + 1, ?_⟩
  unfold stolonlaw12_HeapOrder.f
  rw [shown_ok _ (by omega), less_ok a a _ (by omega), less_ok a b _ (by omega), less_ok b a _ (by omega)]
  simp only [Option.bind_some, decide_eq_true_eq]
  rw [if_neg (lt_irr a)]
  by_cases h : (!(a.f0 == b.f0) || (!(a.f1 == b.f1))) = true
  · rw [if_pos h]
    have hne : a ≠ b := fun h2 => by subst h2; simp at h
    have : (decide (lt a b) == decide (lt b a)) = false := by
      by_cases h1 : lt a b
      · simp [h1, lt_asymm h1]
      · simp [h1, lt_of_ne hne h1]
    rw [this]
    exact key 20000 (by omega)
  · rw [if_neg h]
    exact key 20000 (by omega)
end Go.Proofs.Ytlihbdinghoeeab.Pure
