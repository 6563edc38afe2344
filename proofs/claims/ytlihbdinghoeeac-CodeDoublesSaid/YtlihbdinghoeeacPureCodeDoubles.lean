/- CodeDoubles over numbers. -/
import Derived.Test.YtlihbdinghoeeacStCodeDoubles
import Derived.Test.YtlihbdinghoeeacCdLib
namespace Go.Proofs.Ytlihbdinghoeeac.Pure
set_option linter.unusedVariables false
open Go.RowKit Go.Proofs.Ytlihbdinghoeeac.P Go.Proofs.YtlihbdinghoeeacW.PrintWords Go.Proofs.YtlihbdinghoeeacW.PrintLast Go.Proofs.YtlihbdinghoeeacW.PrintMore Go.Proofs.Ytlihbdinghoeeac.CdTable
theorem twice : ∀ c : Fin 112, cval (c.val + 128 + 16) = 2 * cval (c.val + 128) ∧ (cval (c.val + 128 + 1) - cval (c.val + 128)) * 16 = cval (c.val + 128 - c.val % 16) := by decide +kernel
theorem CodeDoubles : stolonlaw03_CodeDoubles.Pure := by
  intro x hx
  have hb := wf_u8 hx
  obtain ⟨c, rfl⟩ := Int.eq_ofNat_of_zero_le hb.1
  have hc : c < 256 := by omega
  obtain ⟨k, ek⟩ : ∃ k : Nat, k = 1000 := ⟨_, rfl⟩
  refine ⟨k + 1, ?_⟩
  unfold stolonlaw03_CodeDoubles.f
  rw [shown_ok _ (by omega)]
  simp only [bs]
  by_cases h : (c : Int) < 128
  · rw [if_pos h, stolonlaw03_CodeDoubles.j0, if_pos rfl]
  · rw [if_neg h, stolonlaw03_CodeDoubles.j0]
    by_cases h2 : (c : Int) > 239
    · rw [if_pos (decide_eq_true h2)]
    · rw [if_neg (by simpa using h2)]
      obtain ⟨h3, h4⟩ := twice ⟨c - 128, by omega⟩
      simp only at h3 h4
      rw [show c - 128 + 128 = c by omega] at h3 h4
      have e1 : ((c : Int) - Int.tmod (c : Int) 16) % 256 = ((c - (c - 128) % 16 : Nat) : Int) := by
        rw [Int.tmod_eq_emod_of_nonneg (by omega)]
        omega
      have e2 : ((c : Int) + 16) % 256 = ((c + 16 : Nat) : Int) := by omega
      have e3 : ((c : Int) + 1) % 256 = ((c + 1 : Nat) : Int) := by omega
      have r1 := val_range hc
      have r2 := val_range (show c + 1 < 256 by omega)
      rw [e1, e2, e3, value_ok hc, value_ok (show c - (c - 128) % 16 < 256 by omega), value_ok (show c + 16 < 256 by omega), value_ok (show c + 1 < 256 by omega)]
      simp only [bs]
      rw [if_pos trivial, w64 (by omega), if_pos h3, w64 (x := cval (c + 1) - cval c) (by omega), w64 (by omega), h4]
      simp
end Go.Proofs.Ytlihbdinghoeeac.Pure
