/- CodeTells over numbers. -/
import Derived.Test.YtlihbdinghoeeacStCodeTells
import Derived.Test.YtlihbdinghoeeacCdLib
namespace Go.Proofs.Ytlihbdinghoeeac.Pure
set_option linter.unusedVariables false
open Go.RowKit Go.Proofs.Ytlihbdinghoeeac.P Go.Proofs.YtlihbdinghoeeacW.PrintWords Go.Proofs.YtlihbdinghoeeacW.PrintLast Go.Proofs.YtlihbdinghoeeacW.PrintMore Go.Proofs.Ytlihbdinghoeeac.CdTable
theorem CodeTells : stolonlaw03_CodeTells.Pure := by
  intro x n hx _
  have hb := wf_u8 hx
  obtain ⟨c, rfl⟩ := Int.eq_ofNat_of_zero_le hb.1
  have hc : c < 256 := by omega
  obtain ⟨m, hm, hk⟩ := near_ok n
  obtain ⟨k, ek⟩ : ∃ k : Nat, k = 1000 := ⟨_, rfl⟩
  refine ⟨k, ?_⟩
  have hn := hk k (by omega)
  have hr := refnear_ok hm k (by omega)
  have hl := refcode_loop n 256 k 0 (by omega) (by omega) (by omega) (fun c hc => absurd hc (by omega))
  rw [Int.natCast_zero] at hl
  unfold stolonlaw03_CodeTells.f
  rw [shown_ok k (by omega)]
  simp only [bs]
  have hrc : stolonref03_Code.f k n = stolonref03_Code.l0 k n 0 := rfl
  by_cases hv : cval m = n
  · have hc2 : stolonref03_Code.f k n = some ((m : Int), 0) := by
      rcases hl with ⟨c', h1, h2, h3⟩ | ⟨h1, h2⟩
      · have := val_inj h1 hm.1 (by rw [h2, hv])
        rw [hrc, h3, this]
      · exact absurd hv (h1 m hm.1)
    rw [code_hit hm hv k hn, hc2]
    simp only [bs]
    rw [if_pos trivial, value_ok hc, refval hc k (by omega)]
    simp only [bs]
    rw [if_pos trivial, if_pos trivial, if_pos trivial, exact_ok hm k hn]
    simp only [bs]
    rw [if_pos (by simp [hv]), hn, hr]
    simp
  · have hc2 : stolonref03_Code.f k n = some (0, 1) := by
      rcases hl with ⟨c', h1, h2, h3⟩ | ⟨h1, h2⟩
      · have := near_unique (near_of_val h1) (h2 ▸ hm)
        subst this
        exact absurd h2 hv
      · rw [hrc, h2]
    rw [code_miss hm hv k hn, hc2]
    simp only [bs]
    rw [if_pos trivial, value_ok hc, refval hc k (by omega)]
    simp only [bs]
    rw [if_pos trivial, if_pos trivial, if_pos trivial, exact_ok hm k hn]
    simp only [bs]
    rw [if_pos (by simp [hv]), hn, hr]
    simp
end Go.Proofs.Ytlihbdinghoeeac.Pure
