/- QuerierLeast over numbers: of questions of many addresses the least one is the other, if it is below its own. -/
import Derived.Test.YtlihbdinghoeeaaStQuerierLeast
import Derived.Test.YtlihbdinghoeeaaQLib
namespace Go.Proofs.Ytlihbdinghoeeaa.Pure
open Go.RowKit Go.Proofs.Ytlihbdinghoeeaa.P Go.Proofs.YtlihbdinghoeeaaW.PrintWords Go.Proofs.YtlihbdinghoeeaaW.PrintLast Go.Proofs.YtlihbdinghoeeaaW.PrintMore
theorem least_loop (a b c d me : Int) (xs : List Int) (hme : 0 < me) (hl : xs.length ≤ 50) (hxs : ∀ y ∈ xs, (Lit.int .u32 y).wf = true) : ∀ (t k i : Nat) (least o l n s : Int), xs.length - i = t → t < k → i ≤ xs.length →
    0 ≤ o → ((o = 0 ∧ l = 0 ∧ least = me) ∨ (o ≠ 0 ∧ o < me ∧ l = d ∧ least = o)) → stolonlaw10_QuerierLeast.l0 k me xs true least i a b c d me o l n s = some true := by
  intro t
  induction t with
  | zero =>
    intro k i least o l n s ht hk hi ho h
    obtain ⟨k, rfl⟩ : ∃ j, k = j + 1 := ⟨k - 1, by omega⟩
    rw [stolonlaw10_QuerierLeast.l0, if_neg (by omega)]
    simp only [if_true]
    rw [asks_prog]
    simp only [Option.bind_some, beq_iff_eq]
    rcases h with ⟨h1, h2, h3⟩ | ⟨h1, h2, h3, h4⟩
    · rw [if_pos h3, if_pos h1, h2]; rfl
    · rw [if_neg (by omega), if_pos (by omega), if_pos h3, beq_eq_false_iff_ne.2 h1]; rfl
  | succ t ih =>
    intro k i least o l n s ht hk hi ho h
    obtain ⟨k, rfl⟩ : ∃ j, k = j + 1 := ⟨k - 1, by omega⟩
    have hlt : i < xs.length := by omega
    have hx := wf_u32 (hxs _ (List.getElem_mem hlt))
    have hrd : rd xs i = xs[i] := by unfold rd; simp [List.getD_eq_getElem?_getD, List.getElem?_eq_getElem hlt]
    rw [stolonlaw10_QuerierLeast.l0, if_pos (by omega), if_pos (by omega), hrd]
    generalize xs[i] = x at hx
    rw [hear_prog a b c d me o l n s x (by omega), w64 (by omega), show (i : Int) + 1 = ((i + 1 : Nat) : Int) from by omega]
    simp only [Option.bind_some]
    by_cases hh : x = 0 ∨ me ≤ x ∨ (o ≠ 0 ∧ o < x)
    · simp only [if_pos hh]
      have hno : ¬ (x > 0 ∧ x < least) := by omega
      by_cases h1 : x > 0
      · rw [if_pos h1, if_neg (by omega)]
        exact ih k (i + 1) least o l n s (by omega) (by omega) (by omega) ho h
      · rw [if_neg h1]
        exact ih k (i + 1) least o l n s (by omega) (by omega) (by omega) ho h
    · simp only [if_neg hh]
      rw [if_pos (by omega)]
      by_cases h1 : x < least
      · rw [if_pos h1]
        exact ih k (i + 1) x x d n s (by omega) (by omega) (by omega) (by omega) (.inr (by omega))
      · rw [if_neg h1]
        exact ih k (i + 1) least x d n s (by omega) (by omega) (by omega) (by omega) (.inr (by omega))
theorem QuerierLeast : stolonlaw10_QuerierLeast.Pure := by
  intro p me xs _ hme hxs
  refine ⟨60, ?_⟩
  have hme := wf_u32 hme
  generalize p.f0 = a, p.f1 = b, p.f2 = c, p.f3 = d at *
  unfold stolonlaw10_QuerierLeast.f
  rw [shown_true, new_prog]
  simp only [Option.bind_some]
  have hj : ∀ j m o l n s, stolonlaw10_QuerierLeast.j0 (j + 1) me xs true true a b c d m o l n s = some true := by
    intro j m o l n s
    rw [stolonlaw10_QuerierLeast.j0, if_pos rfl]
  by_cases hp : MayP a b c d ∧ me ≠ 0
  · simp only [if_pos hp, if_true]
    by_cases h1 : (xs.length : Int) > 50
    · rw [decide_eq_true h1]; exact hj 59 _ _ _ _ _
    · rw [decide_eq_false h1, stolonlaw10_QuerierLeast.j0, if_neg (by simp)]
      exact least_loop a b c d me xs (by omega) (by omega) hxs.2.2 xs.length 59 0 me 0 0 0 c (by omega) (by omega) (by omega) (by omega) (.inl ⟨rfl, rfl, rfl⟩)
  · simp only [if_neg hp]
    rw [if_neg (by omega)]
    exact hj 59 _ _ _ _ _
end Go.Proofs.Ytlihbdinghoeeaa.Pure
