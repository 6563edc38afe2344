/- CodeRises over numbers. -/
import Derived.Test.YtlihbdinghoeeacStCodeRises
import Derived.Test.YtlihbdinghoeeacCdLib
namespace Go.Proofs.Ytlihbdinghoeeac.Pure
set_option linter.unusedVariables false
open Go.RowKit Go.Proofs.Ytlihbdinghoeeac.P Go.Proofs.YtlihbdinghoeeacW.PrintWords Go.Proofs.YtlihbdinghoeeacW.PrintLast Go.Proofs.YtlihbdinghoeeacW.PrintMore Go.Proofs.Ytlihbdinghoeeac.CdTable
theorem CodeRises : stolonlaw03_CodeRises.Pure := by
  intro x y hx hy
  have hb := wf_u8 hx
  have hb2 := wf_u8 hy
  obtain ⟨a, rfl⟩ := Int.eq_ofNat_of_zero_le hb.1
  obtain ⟨b, rfl⟩ := Int.eq_ofNat_of_zero_le hb2.1
  have ha : a < 256 := by omega
  have hb' : b < 256 := by omega
  obtain ⟨k, ek⟩ : ∃ k : Nat, k = 1000 := ⟨_, rfl⟩
  refine ⟨k, ?_⟩
  have hn := near_val ha k (by omega)
  unfold stolonlaw03_CodeRises.f
  rw [shown_ok k (by omega), value_ok ha, value_ok hb']
  simp only [bs]
  rw [code_hit (near_of_val ha) rfl k hn]
  simp only [bs]
  have hlt : (decide ((a : Int) < (b : Int)) == decide (cval a < cval b)) = true := by
    rcases Nat.lt_trichotomy a b with h | h | h
    · have := val_lt h hb'
      simp [h, this]
    · subst h; simp
    · have := val_lt h ha
      rw [decide_eq_false (show ¬ (a : Int) < (b : Int) by omega), decide_eq_false (show ¬ cval a < cval b by omega)]
      rfl
  rw [if_pos trivial, if_pos hlt, if_pos trivial, if_pos trivial, hn]
  simp
end Go.Proofs.Ytlihbdinghoeeac.Pure
