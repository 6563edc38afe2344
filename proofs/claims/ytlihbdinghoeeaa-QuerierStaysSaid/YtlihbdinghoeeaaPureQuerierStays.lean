/- QuerierStays over numbers: what comes out is right; a lesser address is heard, no other one; heard again it stays. -/
import Derived.Test.YtlihbdinghoeeaaStQuerierStays
import Derived.Test.YtlihbdinghoeeaaQLib
namespace Go.Proofs.Ytlihbdinghoeeaa.Pure
open Go.RowKit Go.Proofs.Ytlihbdinghoeeaa.P Go.Proofs.YtlihbdinghoeeaaW.PrintWords Go.Proofs.YtlihbdinghoeeaaW.PrintLast Go.Proofs.YtlihbdinghoeeaaW.PrintMore
theorem QuerierStays : stolonlaw10_QuerierStays.Pure := by
  intro p q x _ hq hx
  refine ⟨3, ?_⟩
  have hm := (wf_u32 hq.1).1
  have hx0 := (wf_u32 hx).1
  generalize p.f0 = a, p.f1 = b, p.f2 = c, p.f3 = d at *
  generalize q.f0 = m, q.f1 = o, q.f2 = l, q.f3 = n, q.f4 = s at *
  unfold stolonlaw10_QuerierStays.f
  rw [shown_true, may_ref]
  simp only [Option.bind_some]
  by_cases hp : MayP a b c d
  · rw [if_pos (by simpa using hp), right_ref 3 (by omega) _ _ _ _ _ hm]
    simp only [Option.bind_some]
    rw [stolonlaw10_QuerierStays.j0]
    by_cases hr : RightP m o l n s
    · rw [if_neg (by simpa using hr), tick_prog a b c d m o l n s hp hr, hear_prog a b c d m o l n s x hx0]
      simp only [Option.bind_some]
      have ht := tick_right a b c d m o l n s hp hr
      have hr0 := hr
      unfold RightP at hr
      unfold MayP at hp
      generalize tickS a b c m o l n s = T at *
      by_cases hh : x = 0 ∨ m ≤ x ∨ (o ≠ 0 ∧ o < x)
      · simp only [if_pos hh]
        rw [right_ref 2 (by omega) _ _ _ _ _ hm, right_ref 2 (by omega) _ _ _ _ _ (by unfold RightP at ht; omega)]
        simp only [Option.bind_some]
        rw [if_pos (by simpa using hr0), if_pos (by simpa using ht), hear_prog a b c d m o l n s x hx0, if_pos hh]
        simp only [Option.bind_some, beq_self_eq_true, Bool.not_true, Bool.or_false]
        rw [stolonlaw10_QuerierStays.j1, asks_prog]
        simp only [Option.bind_some, beq_self_eq_true, Bool.and_true, if_true, Bool.false_eq_true, if_false, beq_iff_eq]
        by_cases h1 : x = 0
        · rw [if_pos h1]
        · rw [if_neg h1]
          by_cases h2 : m ≤ x
          · rw [if_pos h2]
          · rw [if_neg h2, if_neg (by omega)]
            exact congrArg some (decide_eq_true (by omega))
      · simp only [if_neg hh]
        have hr1 : RightP m x d n s := by unfold RightP; omega
        rw [right_ref 2 (by omega) _ _ _ _ _ hm, right_ref 2 (by omega) _ _ _ _ _ (by unfold RightP at ht; omega)]
        simp only [Option.bind_some]
        rw [if_pos (by simpa using hr1), if_pos (by simpa using ht), hear_prog a b c d m x d n s x hx0, if_neg (by omega)]
        simp only [Option.bind_some, beq_self_eq_true, Bool.not_true, Bool.or_false]
        rw [stolonlaw10_QuerierStays.j1, asks_prog]
        simp only [Option.bind_some, if_true, Bool.false_eq_true, if_false, beq_iff_eq]
        rw [if_neg (by omega), if_neg (by omega), if_neg (by omega)]
        exact congrArg some (decide_eq_true (by omega))
    · rw [if_pos (by simpa using hr)]
  · rw [if_neg (by simpa using hp), stolonlaw10_QuerierStays.j0, if_pos rfl]
end Go.Proofs.Ytlihbdinghoeeaa.Pure
