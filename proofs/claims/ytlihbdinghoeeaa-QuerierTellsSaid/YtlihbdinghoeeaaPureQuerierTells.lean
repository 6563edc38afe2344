/- QuerierTells over numbers: whatever pace, querier and address, the program's answers are the reference's. -/
import Derived.Test.YtlihbdinghoeeaaStQuerierTells
import Derived.Test.YtlihbdinghoeeaaQLib
namespace Go.Proofs.Ytlihbdinghoeeaa.Pure
open Go.RowKit Go.Proofs.Ytlihbdinghoeeaa.P Go.Proofs.YtlihbdinghoeeaaW.PrintWords Go.Proofs.YtlihbdinghoeeaaW.PrintLast Go.Proofs.YtlihbdinghoeeaaW.PrintMore
theorem QuerierTells : stolonlaw10_QuerierTells.Pure := by
  intro p q x _ hq hx
  refine ⟨3, ?_⟩
  have hm := (wf_u32 hq.1).1
  have hx0 := (wf_u32 hx).1
  generalize p.f0 = a, p.f1 = b, p.f2 = c, p.f3 = d at *
  generalize q.f0 = m, q.f1 = o, q.f2 = l, q.f3 = n, q.f4 = s at *
  unfold stolonlaw10_QuerierTells.f
  rw [shown_true, new_prog, new_ref, may_prog, may_ref, right_prog, right_ref 3 (by omega) _ _ _ _ _ hm, asks_prog]
  simp only [Option.bind_some]
  rw [if_neg (by simp), if_neg (by simp), if_neg (by simp), if_pos trivial]
  rw [stolonlaw10_QuerierTells.j0, may_ref]
  rw [if_neg (by simp)]
  simp only [Option.bind_some]
  by_cases hp : MayP a b c d
  · rw [if_pos (by simpa using hp), right_ref 2 (by omega) _ _ _ _ _ hm]
    simp only [Option.bind_some]
    rw [stolonlaw10_QuerierTells.j1]
    by_cases hr : RightP m o l n s
    · rw [if_neg (by simpa using hr), tick_prog a b c d m o l n s hp hr, tick_ref a b c d m o l n s hp hr, hear_prog a b c d m o l n s x hx0, hear_ref]
      simp
    · rw [if_pos (by simpa using hr)]
  · rw [if_neg (by simpa using hp), stolonlaw10_QuerierTells.j1, if_pos rfl]
end Go.Proofs.Ytlihbdinghoeeaa.Pure
