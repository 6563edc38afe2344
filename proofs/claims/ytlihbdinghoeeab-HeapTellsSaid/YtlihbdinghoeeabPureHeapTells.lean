/- HeapTells over numbers and lists. -/
import Derived.Test.YtlihbdinghoeeabStHeapTells
import Derived.Test.YtlihbdinghoeeabHpRef
namespace Go.Proofs.Ytlihbdinghoeeab.Pure
set_option linter.unusedVariables false
open Go.RowKit Go.Proofs.Ytlihbdinghoeeab.P Go.Proofs.YtlihbdinghoeeabW.PrintWords Go.Proofs.YtlihbdinghoeeabW.PrintLast Go.Proofs.YtlihbdinghoeeabW.PrintMore
theorem tells_j (l : List It) (x : It) (k : Nat) (hk : 20000 ≤ k) (hl : l.length ≤ 100) : stolonlaw12_HeapTells.j0 (k + 1) l true false x.f0 x.f1 = some true := by
  rw [stolonlaw12_HeapTells.j0, if_neg (by simp), rightR_ok l k (by omega) (by omega)]
  simp only [bs, decide_eq_true_eq]
  by_cases h : Heap l
  · rw [if_pos h]
    rcases Nat.eq_zero_or_pos l.length with h0 | h0
    · obtain rfl := List.eq_nil_of_length_eq_zero h0
      rw [pop_nil, popR_nil]
      simp only [bs]
      rw [if_pos trivial, push_ok [] x k (by simp) (by simp; omega), pushR_ok [] x k (by simp) (by simp; omega)]
      simp only [bs]
      rw [same_ok _ _ (by rw [pushL_length]; simp) (by rw [pushL_length]; simp; omega), same_ok [] k (by simp) (by simp; omega)]
      simp
    · rw [pop_ok l k h0 (by omega) (by omega), popR_ok l k h0 (by omega) (by omega)]
      simp only [bs]
      rw [if_pos trivial, push_ok l x k (by omega) (by omega), pushR_ok l x k (by omega) (by omega)]
      simp only [bs]
      rw [same_ok _ _ (by rw [pushL_length]; omega) (by rw [pushL_length]; omega), same_ok _ k (by rw [popL_length]; omega) (by rw [popL_length]; omega)]
      simp
  · rw [if_neg h]
theorem HeapTells : stolonlaw12_HeapTells.Pure := by
  intro l x y hl _ _
  refine ⟨20000 + 1, ?_⟩
  unfold stolonlaw12_HeapTells.f
  rw [shown_ok _ (by omega)]
  simp only [bs]
  by_cases h : (l.length : Int) > 100
  · rw [if_pos h]
  · have hh : l.length ≤ 100 := by omega
    have hlen2 : l.length * (l.length + 3) ≤ 100 * 103 := Nat.mul_le_mul hh (by omega)
    rw [if_neg h, less_ok _ _ _ (by omega), less_ref, right_ok _ _ (by omega) (by omega), rightR_ok _ _ (by omega) (by omega), make_ok _ _ (by omega) (by omega), makeR_ok _ _ (by omega) (by omega), sort_ok _ _ (by omega) (by omega), sortR_ok _ _ (by omega) (by omega)]
    simp only [bs]
    rw [if_neg (by simp), if_neg (by simp), same_ok _ _ (by rw [makeL_length]; omega) (by rw [makeL_length]; omega), same_ok _ _ (by rw [sortL_length]; omega) (by rw [sortL_length]; omega)]
    simp only [bs]
    rw [if_pos trivial]
    exact tells_j l x 20000 (by omega) hh
end Go.Proofs.Ytlihbdinghoeeab.Pure
