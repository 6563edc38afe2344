/- QuerierBack over numbers: who hears of a lesser one waits for as many ticks as the pace says, and asks then. -/
import Derived.Test.YtlihbdinghoeeaaStQuerierBack
import Derived.Test.YtlihbdinghoeeaaQLib
namespace Go.Proofs.Ytlihbdinghoeeaa.Pure
open Go.RowKit Go.Proofs.Ytlihbdinghoeeaa.P Go.Proofs.YtlihbdinghoeeaaW.PrintWords Go.Proofs.YtlihbdinghoeeaaW.PrintLast Go.Proofs.YtlihbdinghoeeaaW.PrintMore
theorem back_end (a b c d m x : Int) (hp : MayP a b c d) (hm : 0 < m) (k : Nat) (i : Int) (hi : d ≤ i) : stolonlaw10_QuerierBack.l0 (k + 1) x true i a b c d m 0 0 0 c = some true := by
  have hp' := hp
  unfold MayP at hp'
  rw [stolonlaw10_QuerierBack.l0, if_neg (by omega), tick_prog a b c d m 0 0 0 c hp (by unfold RightP; omega), new_prog, if_pos ⟨hp, by omega⟩]
  simp only [Option.bind_some, if_true, beq_self_eq_true, Bool.and_true]
  obtain ⟨n1, s1, e1⟩ : ∃ n1 s1 : Int, tickS a b c m 0 0 0 c = (m, 0, 0, n1, s1, true) := by
    unfold tickS
    rw [if_pos rfl, if_neg (by omega)]
    by_cases h2 : 1 < c
    · exact ⟨_, _, by rw [if_pos h2]⟩
    · exact ⟨_, _, by rw [if_neg h2]⟩
  rw [e1]
  simp only [if_true]
  rw [asks_prog]
  rfl
theorem back_loop (a b c d m x n s : Int) (hp : MayP a b c d) (hx : 0 < x) (hxm : x < m) (hd : d ≤ 100) (hn : 0 ≤ n ∧ n ≤ 1000000) (hs : 0 ≤ s ∧ s ≤ 100) : ∀ (t k : Nat) (i : Int), d - i = t + 1 → 2 * t + 3 < k → 0 ≤ i →
    stolonlaw10_QuerierBack.l0 k x true i a b c d m x (d - i) n s = some true := by
  have hp' := hp
  unfold MayP at hp'
  intro t
  induction t with
  | zero =>
    intro k i ht hk h0
    obtain ⟨k, rfl⟩ : ∃ j, k = j + 1 + 1 + 1 := ⟨k - 3, by omega⟩
    rw [stolonlaw10_QuerierBack.l0, if_pos (by omega), asks_prog]
    simp only [Option.bind_some, beq_iff_eq, bne_self_eq_false]
    rw [if_neg (by omega), stolonlaw10_QuerierBack.j2, if_neg (by simp), tick_prog a b c d m x (d - i) n s hp (by unfold RightP; omega)]
    have e1 : tickS a b c m x (d - i) n s = (m, 0, 0, 0, c, false) := by unfold tickS; rw [if_neg (by omega), if_neg (by omega)]
    rw [e1]
    simp only [Option.bind_some, Bool.false_eq_true, if_false]
    rw [w64 (by omega)]
    exact back_end a b c d m x hp (by omega) k (i + 1) (by omega)
  | succ t ih =>
    intro k i ht hk h0
    obtain ⟨k, rfl⟩ : ∃ j, k = j + 1 + 1 := ⟨k - 2, by omega⟩
    rw [stolonlaw10_QuerierBack.l0, if_pos (by omega), asks_prog]
    simp only [Option.bind_some, beq_iff_eq, bne_self_eq_false]
    rw [if_neg (by omega), stolonlaw10_QuerierBack.j2, if_neg (by simp), tick_prog a b c d m x (d - i) n s hp (by unfold RightP; omega)]
    have e1 : tickS a b c m x (d - i) n s = (m, x, d - (i + 1), n, s, false) := by unfold tickS; rw [if_neg (by omega), if_pos (by omega)]; rw [show d - i - 1 = d - (i + 1) by omega]
    rw [e1]
    simp only [Option.bind_some, Bool.false_eq_true, if_false]
    rw [w64 (by omega)]
    exact ih k (i + 1) (by omega) (by omega) (by omega)
theorem QuerierBack : stolonlaw10_QuerierBack.Pure := by
  intro p q x _ hq hx
  refine ⟨210, ?_⟩
  have hm := (wf_u32 hq.1).1
  have ho := (wf_u32 hq.2.1).1
  have hx0 := (wf_u32 hx).1
  generalize p.f0 = a, p.f1 = b, p.f2 = c, p.f3 = d at *
  generalize q.f0 = m, q.f1 = o, q.f2 = l, q.f3 = n, q.f4 = s at *
  unfold stolonlaw10_QuerierBack.f
  rw [shown_true, may_ref]
  simp only [Option.bind_some]
  have hj : ∀ j, stolonlaw10_QuerierBack.j0 (j + 1) x true true a b c d m o l n s = some true := by
    intro j
    rw [stolonlaw10_QuerierBack.j0, if_pos rfl]
  by_cases hp : MayP a b c d
  · rw [if_pos (by simpa using hp), right_ref 210 (by omega) _ _ _ _ _ hm]
    simp only [Option.bind_some]
    by_cases hr : RightP m o l n s
    · rw [if_pos (by simpa using hr)]
      by_cases h1 : x = 0
      · rw [if_pos h1]; exact hj 209
      · rw [if_neg h1]
        by_cases h2 : x ≥ m
        · rw [if_pos h2]; exact hj 209
        · rw [if_neg h2]
          by_cases h3 : d > 100
          · rw [if_pos h3]; exact hj 209
          · rw [if_neg h3]
            have hp' := hp
            unfold MayP at hp'
            have hr' := hr
            unfold RightP at hr'
            have main : ¬ (o ≠ 0 ∧ o < x) → stolonlaw10_QuerierBack.j0 210 x true false a b c d m o l n s = some true := by
              intro h
              rw [stolonlaw10_QuerierBack.j0, if_neg (by simp), hear_prog a b c d m o l n s x hx0, if_neg (by omega)]
              simp only [Option.bind_some]
              have := back_loop a b c d m x n s hp (by omega) (by omega) (by omega) (by omega) (by omega) (d - 1).toNat 209 0 (by omega) (by omega) (by omega)
              rw [Int.sub_zero] at this
              exact this
            by_cases h4 : o = 0
            · rw [if_pos h4]; exact main (by omega)
            · rw [if_neg h4]
              by_cases h5 : o < x
              · rw [decide_eq_true h5]; exact hj 209
              · rw [decide_eq_false h5]; exact main (by omega)
    · rw [if_neg (by simpa using hr)]; exact hj 209
  · rw [if_neg (by simpa using hp)]; exact hj 209
end Go.Proofs.Ytlihbdinghoeeaa.Pure
