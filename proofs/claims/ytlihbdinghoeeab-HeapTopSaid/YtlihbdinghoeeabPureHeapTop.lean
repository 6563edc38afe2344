/- HeapTop over numbers and lists. -/
import Derived.Test.YtlihbdinghoeeabStHeapTop
import Derived.Test.YtlihbdinghoeeabHpRef
namespace Go.Proofs.Ytlihbdinghoeeab.Pure
set_option linter.unusedVariables false
open Go.RowKit Go.Proofs.Ytlihbdinghoeeab.P Go.Proofs.YtlihbdinghoeeabW.PrintWords Go.Proofs.YtlihbdinghoeeabW.PrintLast Go.Proofs.YtlihbdinghoeeabW.PrintMore
theorem top_end (l : List It) (x : It) (k : Nat) (hk : 20000 ≤ k) (hl : l.length ≤ 100) (i : Nat) (hi : l.length ≤ i) : stolonlaw12_HeapTop.l0 (k + 1) l true i x.f0 x.f1 = some true := by
  have hpl : (pushL [] x) = [x] := by
    unfold pushL
    rw [riseL, if_neg (by simp)]
    rfl
  rw [stolonlaw12_HeapTop.l0, if_neg (by omega), push_ok [] x k (by simp) (by simp; omega), hpl]
  simp only [Option.bind_some]
  rw [pop_ok [x] k (by simp) (by simp) (by simp; omega)]
  simp only [Option.bind_some]
  have h1 : popL [x] = [] := List.eq_nil_of_length_eq_zero (by rw [popL_length]; rfl)
  rcases Nat.eq_zero_or_pos l.length with h0 | h0
  · obtain rfl := List.eq_nil_of_length_eq_zero h0
    rw [pop_nil]
    simp only [Option.bind_some]
    rw [if_pos trivial, h1]
    simp [at']
  · rw [pop_ok l k h0 (by omega) (by omega)]
    simp only [Option.bind_some]
    rw [if_pos trivial, h1]
    have hd : decide ((l.length : Int) > 0) = true := decide_eq_true (by omega)
    rw [hd, if_pos (by omega : (0 : Int) < (l.length : Int))]
    have : rd_T24 l 0 = at' l 0 := rfl
    rw [this]
    simp [at']
theorem top_loop (l : List It) (x : It) (hl : l.length ≤ 100) (hh : Heap l) : ∀ (t k i : Nat), l.length - i = t → 20000 + t + 2 ≤ k → stolonlaw12_HeapTop.l0 k l true i x.f0 x.f1 = some true := by
  intro t
  induction t with
  | zero =>
    intro k i ht hk
    obtain ⟨k, rfl⟩ : ∃ j, k = j + 1 := ⟨k - 1, by omega⟩
    exact top_end l x k (by omega) hl i (by omega)
  | succ t ih =>
    intro k i ht hk
    obtain ⟨k, rfl⟩ : ∃ j, k = j + 1 := ⟨k - 1, by omega⟩
    have e2 : wrap64 ((i : Int) + 1) = ((i + 1 : Nat) : Int) := by rw [w64 (by omega)]; omega
    rw [stolonlaw12_HeapTop.l0, if_pos (by omega), if_pos (by omega), if_pos (by omega), rd_nat, show rd_T24 l 0 = at' l 0 from rfl, less_ok _ _ _ (by omega)]
    simp only [Option.bind_some, decide_eq_true_eq]
    rw [if_neg (heap_min hh i (by omega)), e2]
    exact ih k (i + 1) (by omega) (by omega)
theorem HeapTop : stolonlaw12_HeapTop.Pure := by
  intro l x hl _
  refine ⟨30000 + 1, ?_⟩
  unfold stolonlaw12_HeapTop.f
  rw [shown_ok _ (by omega)]
  simp only [Option.bind_some]
  by_cases h : (l.length : Int) > 100
  · rw [if_pos h, stolonlaw12_HeapTop.j0, if_pos rfl]
  · rw [if_neg h, rightR_ok _ _ (by omega) (by omega)]
    simp only [Option.bind_some]
    by_cases hh : Heap l
    · rw [decide_eq_true hh, stolonlaw12_HeapTop.j0, if_neg (by simp)]
      exact top_loop l x (by omega) hh _ 30000 1 rfl (by omega)
    · rw [decide_eq_false hh, stolonlaw12_HeapTop.j0, if_pos (show (!false) = true from rfl)]
end Go.Proofs.Ytlihbdinghoeeab.Pure
