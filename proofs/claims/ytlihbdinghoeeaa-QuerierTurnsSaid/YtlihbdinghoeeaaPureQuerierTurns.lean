/- QuerierTurns over numbers: one that hears nothing asks at once, then each First ticks Many times, then each Every ticks. -/
import Derived.Test.YtlihbdinghoeeaaStQuerierTurns
import Derived.Test.YtlihbdinghoeeaaQLib
namespace Go.Proofs.Ytlihbdinghoeeaa.Pure
open Go.RowKit Go.Proofs.Ytlihbdinghoeeaa.P Go.Proofs.YtlihbdinghoeeaaW.PrintWords Go.Proofs.YtlihbdinghoeeaaW.PrintLast Go.Proofs.YtlihbdinghoeeaaW.PrintMore
theorem turns_loop (a b c d me n : Int) (hp : MayP a b c d) (hme : 0 < me) (hn : 0 ≤ n ∧ n ≤ 255) : ∀ (t k : Nat) (i asked nx so next : Int), n + 1 - i = t → t < k → 0 ≤ i → 0 ≤ asked ∧ asked ≤ i → 0 ≤ nx ∧ nx ≤ 1000000 →
    next = i + nx → (so = if asked < c then c - asked else 0) → stolonlaw10_QuerierTurns.l0 k n true next asked i a b c d me 0 0 nx so = some true := by
  intro t
  induction t with
  | zero =>
    intro k i asked nx so next ht hk h0 _ _ _ _
    obtain ⟨k, rfl⟩ : ∃ j, k = j + 1 := ⟨k - 1, by omega⟩
    rw [stolonlaw10_QuerierTurns.l0, w64 (by omega), if_neg (by omega)]
  | succ t ih =>
    intro k i asked nx so next ht hk h0 ha hnx hnext hso
    obtain ⟨k, rfl⟩ : ∃ j, k = j + 1 := ⟨k - 1, by omega⟩
    have hp' := hp
    unfold MayP at hp'
    have hs1 : 0 ≤ so ∧ so ≤ 100 := by subst hso; split <;> omega
    rw [stolonlaw10_QuerierTurns.l0, w64 (x := n) (by omega), if_pos (by omega), tick_prog a b c d me 0 0 nx so hp (by unfold RightP; omega)]
    simp only [Option.bind_some]
    unfold tickS
    rw [if_pos rfl]
    have hi : wrap64 (i + 1) = i + 1 := w64 (by omega)
    have hk1 : wrap64 (asked + 1) = asked + 1 := w64 (by omega)
    have hb : wrap64 (i + b) = i + b := w64 (by omega)
    have ha' : wrap64 (i + a) = i + a := w64 (by omega)
    by_cases h1 : 0 < nx
    · simp only [if_pos h1]
      have hne : (i == next) = false := beq_eq_false_iff_ne.2 (by omega)
      rw [hne, hi]
      simp only [bne_self_eq_false, Bool.false_eq_true, if_false]
      exact ih k (i + 1) asked (nx - 1) so next (by omega) (by omega) (by omega) (by omega) (by omega) (by omega) hso
    · simp only [if_neg h1]
      have heq : (i == next) = true := beq_iff_eq.2 (by omega)
      by_cases h2 : 1 < so
      · simp only [if_pos h2]
        have hlt : asked + 1 < c := by
          by_cases h3 : asked < c
          · rw [if_pos h3] at hso; omega
          · rw [if_neg h3] at hso; omega
        rw [heq, hi, hk1, hb]
        simp only [bne_self_eq_false, Bool.false_eq_true, if_false, if_true]
        rw [if_pos hlt]
        exact ih k (i + 1) (asked + 1) (b - 1) (so - 1) (i + b) (by omega) (by omega) (by omega) (by omega) (by omega) (by omega) (by rw [if_pos hlt]; rw [if_pos (by omega)] at hso; omega)
      · simp only [if_neg h2]
        have hlt : ¬ asked + 1 < c := by
          by_cases h3 : asked < c
          · rw [if_pos h3] at hso; omega
          · omega
        rw [heq, hi, hk1, ha']
        simp only [bne_self_eq_false, Bool.false_eq_true, if_false, if_true]
        rw [if_neg hlt]
        exact ih k (i + 1) (asked + 1) (a - 1) 0 (i + a) (by omega) (by omega) (by omega) (by omega) (by omega) (by omega) (by rw [if_neg hlt])
theorem QuerierTurns : stolonlaw10_QuerierTurns.Pure := by
  intro p me n _ hme hn
  refine ⟨258, ?_⟩
  have hme := wf_u32 hme
  have hn := wf_u8 hn
  generalize p.f0 = a, p.f1 = b, p.f2 = c, p.f3 = d at *
  unfold stolonlaw10_QuerierTurns.f
  rw [shown_true, may_ref]
  simp only [Option.bind_some]
  have hj : ∀ j, stolonlaw10_QuerierTurns.j0 (j + 1) me n true true a b c d = some true := by
    intro j
    rw [stolonlaw10_QuerierTurns.j0, if_pos rfl]
  by_cases hp : MayP a b c d
  · rw [if_pos (by simpa using hp)]
    by_cases h1 : me = 0
    · rw [if_pos h1]; exact hj 257
    · rw [if_neg h1]
      by_cases h2 : c > 20
      · rw [if_pos h2]; exact hj 257
      · rw [if_neg h2]
        by_cases h3 : b > 20
        · rw [if_pos h3]; exact hj 257
        · rw [if_neg h3]
          by_cases h4 : a > 100
          · rw [decide_eq_true h4]; exact hj 257
          · rw [decide_eq_false h4, stolonlaw10_QuerierTurns.j0]
            rw [if_neg (by simp), new_prog, if_pos ⟨hp, h1⟩]
            simp only [Option.bind_some, if_true]
            have hp' := hp
            unfold MayP at hp'
            exact turns_loop a b c d me n hp (by omega) (by omega) (n + 1).toNat 257 0 0 0 c 0 (by omega) (by omega) (by omega) (by omega) (by omega) (by omega) (by rw [if_pos (by omega)]; omega)
  · rw [if_neg (by simpa using hp)]
    exact hj 257
end Go.Proofs.Ytlihbdinghoeeaa.Pure
