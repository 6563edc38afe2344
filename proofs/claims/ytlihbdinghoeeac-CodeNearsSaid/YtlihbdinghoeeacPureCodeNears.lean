/- CodeNears over numbers. -/
import Derived.Test.YtlihbdinghoeeacStCodeNears
import Derived.Test.YtlihbdinghoeeacCdLib
namespace Go.Proofs.Ytlihbdinghoeeac.Pure
set_option linter.unusedVariables false
open Go.RowKit Go.Proofs.Ytlihbdinghoeeac.P Go.Proofs.YtlihbdinghoeeacW.PrintWords Go.Proofs.YtlihbdinghoeeacW.PrintLast Go.Proofs.YtlihbdinghoeeacW.PrintMore Go.Proofs.Ytlihbdinghoeeac.CdTable
theorem near_255' {a : Int} {m : Nat} (h : IsNear a m) (ha : 31744 ≤ a) : m = 255 := by
  have := h.2.2.2 255 (by omega) (by rw [val_255]; exact ha)
  have := h.1
  omega
/-- The next value is less than a sixteenth above, from 128 on; below that they are one apart. -/
theorem gap_all : ∀ c : Fin 255, (cval (c.val + 1) - 1 - cval c.val) * 16 < cval (c.val + 1) - 1 + 16 ∧ cval (c.val + 1) - cval c.val ≤ 1024 ∧ (cval (c.val + 1) - cval c.val) * 16 ≤ (cval c.val) + 16 := by decide +kernel
theorem CodeNears : stolonlaw03_CodeNears.Pure := by
  intro x hx
  have hb := wf_u16 hx
  obtain ⟨m, hm, hk⟩ := near_ok x
  obtain ⟨k, ek⟩ : ∃ k : Nat, k = 1000 := ⟨_, rfl⟩
  refine ⟨k, ?_⟩
  have hn := hk k (by omega)
  have r := val_range hm.1
  have hle := hm.2.2.1 hb.1
  unfold stolonlaw03_CodeNears.f
  rw [shown_ok k (by omega), w64 (x := x) (by omega), hn]
  simp only [bs]
  by_cases h : x > 31744
  · rw [if_pos h, if_pos trivial, near_255' hm (by omega)]
    rfl
  · rw [if_neg h, value_ok hm.1]
    simp only [bs]
    rw [if_pos trivial, if_pos hle, w64 (x := x - cval m) (by omega), w64 (x := (x - cval m) * 16) (by omega), w64 (x := x + 16) (by omega)]
    by_cases h2 : (m : Int) = 255
    · rw [if_pos h2]
      have : m = 255 := by omega
      subst this
      rw [val_255] at hle ⊢
      exact congrArg some (decide_eq_true (by omega))
    · have hm1 := hm.1
      rw [if_neg h2, show ((m : Int) + 1) % 256 = ((m + 1 : Nat) : Int) by omega, value_ok (show m + 1 < 256 by omega)]
      simp only [bs]
      have hgt : cval (m + 1) > x := by
        rcases Int.lt_or_le x (cval (m + 1)) with h3 | h3
        · exact h3
        · have := hm.2.2.2 (m + 1) (by omega) h3
          omega
      have g := gap_all ⟨m, by have := hm.1; omega⟩
      simp only at g
      rw [if_pos hgt]
      exact congrArg some (decide_eq_true (by omega))
end Go.Proofs.Ytlihbdinghoeeac.Pure
