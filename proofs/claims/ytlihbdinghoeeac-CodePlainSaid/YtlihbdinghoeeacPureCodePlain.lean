/- CodePlain over numbers. -/
import Derived.Test.YtlihbdinghoeeacStCodePlain
import Derived.Test.YtlihbdinghoeeacCdLib
namespace Go.Proofs.Ytlihbdinghoeeac.Pure
set_option linter.unusedVariables false
open Go.RowKit Go.Proofs.Ytlihbdinghoeeac.P Go.Proofs.YtlihbdinghoeeacW.PrintWords Go.Proofs.YtlihbdinghoeeacW.PrintLast Go.Proofs.YtlihbdinghoeeacW.PrintMore Go.Proofs.Ytlihbdinghoeeac.CdTable
theorem small_val {c : Nat} (h : c < 128) : cval c = (c : Int) := by unfold cval; rw [if_pos h]
theorem CodePlain : stolonlaw03_CodePlain.Pure := by
  intro x y hx hy
  have hb := wf_u8 hx
  have hb2 := wf_u16 hy
  obtain ⟨n, rfl⟩ := Int.eq_ofNat_of_zero_le hb.1
  have hk128 : n % 128 < 128 := by omega
  have e1 : wrap64 (Int.tmod (n : Int) 128) = ((n % 128 : Nat) : Int) := by
    rw [Int.tmod_eq_emod_of_nonneg (by omega), w64 (by omega)]
    omega
  have e2 : wrap64 y = y := w64 (by omega)
  obtain ⟨m, hm, hk⟩ := near_ok y
  obtain ⟨k, ek⟩ : ∃ k : Nat, k = 1000 := ⟨_, rfl⟩
  refine ⟨k, ?_⟩
  have hn := hk k (by omega)
  have hc : n % 128 < 256 := by omega
  have hs := small_val hk128
  have hN := near_of_val hc
  have hN2 := near_val hc k (by omega)
  rw [hs] at hN hN2
  have hM2 := near_val hm.1 k (by omega)
  unfold stolonlaw03_CodePlain.f
  rw [shown_ok k (by omega), e1, e2, hn, code_hit hN hs k hN2]
  simp only [bs]
  rw [value_ok hm.1]
  simp only [bs]
  rw [if_pos trivial, if_pos trivial, w64 (by omega), if_pos rfl, mod256 hc, value_ok hc]
  simp only [bs]
  rw [if_pos hs, exact_ok hN k hN2]
  simp only [bs]
  rw [if_pos (decide_eq_true hs), if_pos (hm.2.2.1 hb2.1), exact_ok (near_of_val hm.1) k hM2]
  simp only [bs]
  rw [if_pos (by simp), exact_ok hm k hn]
  simp only [bs]
  refine congrArg some ?_
  by_cases hv : cval m = y
  · simp [hv]
  · simp [hv]
end Go.Proofs.Ytlihbdinghoeeac.Pure
