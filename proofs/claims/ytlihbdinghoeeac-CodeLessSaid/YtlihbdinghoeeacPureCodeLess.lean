/- CodeLess over numbers. -/
import Derived.Test.YtlihbdinghoeeacStCodeLess
import Derived.Test.YtlihbdinghoeeacCdLib
namespace Go.Proofs.Ytlihbdinghoeeac.Pure
set_option linter.unusedVariables false
open Go.RowKit Go.Proofs.Ytlihbdinghoeeac.P Go.Proofs.YtlihbdinghoeeacW.PrintWords Go.Proofs.YtlihbdinghoeeacW.PrintLast Go.Proofs.YtlihbdinghoeeacW.PrintMore Go.Proofs.Ytlihbdinghoeeac.CdTable
theorem near_0 {a : Int} {m : Nat} (h : IsNear a m) (ha : a ≤ 0) : m = 0 := by
  rcases Int.lt_or_eq_of_le ha with h1 | h1
  · exact h.2.1 h1
  · have h2 := h.2.2.1 (by omega)
    rcases Nat.eq_zero_or_pos m with h3 | h3
    · exact h3
    · have := val_lt h3 h.1
      rw [val_0] at this
      omega
theorem near_255 {a : Int} {m : Nat} (h : IsNear a m) (ha : 31744 ≤ a) : m = 255 := by
  have := h.2.2.2 255 (by omega) (by rw [val_255]; exact ha)
  have := h.1
  omega
theorem near_mono {a b : Int} {m n : Nat} (h : IsNear a m) (h' : IsNear b n) (hab : a ≤ b) : m ≤ n := by
  rcases Int.lt_or_le a 0 with h1 | h1
  · rw [h.2.1 h1]; omega
  · exact h'.2.2.2 m h.1 (Int.le_trans (h.2.2.1 h1) hab)
theorem CodeLess : stolonlaw03_CodeLess.Pure := by
  intro a b _ _
  obtain ⟨m, hm, hk⟩ := near_ok a
  obtain ⟨n, hn, hk2⟩ := near_ok b
  obtain ⟨k, ek⟩ : ∃ k : Nat, k = 1000 := ⟨_, rfl⟩
  refine ⟨k, ?_⟩
  have g1 := hk k (by omega)
  have g2 := hk2 k (by omega)
  unfold stolonlaw03_CodeLess.f
  rw [shown_ok k (by omega), g1, g2]
  simp only [bs]
  rw [if_pos trivial]
  have last : (if a > 0 then (if a < 31744 then some true else some ((m : Int) == 255)) else if (m : Int) = 0 then (if a < 31744 then some true else some ((m : Int) == 255)) else some false) = some true := by
    by_cases h0 : a > 0
    · rw [if_pos h0]
      by_cases h1 : a < 31744
      · rw [if_pos h1]
      · rw [if_neg h1, near_255 hm (by omega)]
        rfl
    · rw [if_neg h0, near_0 hm (by omega), if_pos (show ((0 : Nat) : Int) = 0 from rfl), if_pos (by omega)]
  by_cases h : a > b
  · rw [if_pos h]
    exact last
  · rw [if_neg h, if_pos (by have := near_mono hm hn (by omega); omega)]
    exact last
end Go.Proofs.Ytlihbdinghoeeac.Pure
