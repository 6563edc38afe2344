/- FlowTwo over numbers and lists. -/
import Derived.Test.YteibolilodgjnaaStFlowTwo
import Derived.Test.YteibolilodgjnaaFlStart
namespace Go.Proofs.Yteibolilodgjnaa.Pure
set_option linter.unusedVariables false
set_option linter.unusedSimpArgs false
open Go.RowKit Go.Proofs.Yteibolilodgjnaa.P Go.Proofs.YteibolilodgjnaaW.PrintWords Go.Proofs.YteibolilodgjnaaW.PrintLast Go.Proofs.YteibolilodgjnaaW.PrintMore
theorem two_eq (l : List Ru) (r s : Ru) (hs : riseK l = true) (hl : l.length ≤ 2000) (hne : keyR r ≠ keyR s) : (putR (putR l r 5000).1 s 5000).1 = (putR (putR l s 5000).1 r 5000).1 ∧ (putR l r 5000).2 = (putR (putR l s 5000).1 r 5000).2 ∧ (putR (putR l r 5000).1 s 5000).2 = (putR l s 5000).2 ∧ (putR (putR l r 5000).1 r ((putR l r 5000).1.length : Int)).1 = (putR l r 5000).1 := by
  have key : ∀ (l : List Ru) (r : Ru), riseK l = true → l.length ≤ 2001 → putR l r 5000 = if rightR r = true then (putP l r, 0) else (l, 1) := by
    intro l r hs hl
    unfold putR
    split
    · split
      · rfl
      · rw [if_neg (by omega)]
    · rfl
  have hp : ∀ r : Ru, (putP l r).length ≤ 2001 := by
    intro r
    rw [len_putP r hs]
    split <;> omega
  rw [key l r hs (by omega), key l s hs (by omega)]
  have again : (putR (putP l r) r ((putP l r).length : Int)).1 = if rightR r = true then putP l r else putP l r := by
    unfold putR
    rw [placeB_put hs, if_pos rfl, putP_again hs]
    split <;> rfl
  by_cases h1 : rightR r = true <;> by_cases h2 : rightR s = true
  · rw [if_pos h1, if_pos h2, key _ s (putP_rise r hs) (hp r), key _ r (putP_rise s hs) (hp s), if_pos h1, if_pos h2, again, if_pos h1]
    exact ⟨putP_comm hs hne, rfl, rfl, rfl⟩
  · rw [if_pos h1, if_neg h2, key _ s (putP_rise r hs) (hp r), key _ r hs (by omega), if_pos h1, if_neg h2, again, if_pos h1]
    exact ⟨rfl, rfl, rfl, rfl⟩
  · rw [if_neg h1, if_pos h2, key _ s hs (by omega), key _ r (putP_rise s hs) (hp s), if_neg h1, if_pos h2]
    refine ⟨rfl, rfl, rfl, ?_⟩
    unfold putR
    rw [if_neg h1]
  · rw [if_neg h1, if_neg h2, key _ s hs (by omega), key _ r hs (by omega), if_neg h1, if_neg h2]
    refine ⟨rfl, rfl, rfl, ?_⟩
    unfold putR
    rw [if_neg h1]
theorem FlowTwo : stolonlaw15_FlowTwo.Pure := by
  intro l r s hl hr hs
  refine ⟨9999 + 1, ?_⟩
  unfold stolonlaw15_FlowTwo.f
  rw [shown_ok _ (by omega), fbs]
  obtain ⟨b, h1, h2⟩ := start_ok hl (9999 + 1) (by omega)
  rw [h1, fbs]
  have yes : ∀ x4 x5 x6 x7 x8 x9 x10 x11 x12 x13 x14 x15, stolonlaw15_FlowTwo.j0 (9999 + 1) l true true x4 x5 x6 x7 x8 x9 x10 x11 x12 x13 x14 x15 = some true := by
    intros
    rw [stolonlaw15_FlowTwo.j0, if_pos rfl]
  cases b with
  | false => rw [if_neg (by simp)]; exact yes _ _ _ _ _ _ _ _ _ _ _ _
  | true =>
    obtain ⟨h3, h4, h5⟩ := h2 rfl
    rw [if_pos rfl, h5, fbs]
    have hr5 := hr.2.2.2.2.2.1
    have hs5 := hs.2.2.2.2.2.1
    cases ht : tabB none l with
    | false => rw [if_neg (by simp)]; exact yes _ _ _ _ _ _ _ _ _ _ _ _
    | true =>
      obtain ⟨_, hri⟩ := (tabB_none l).1 ht
      rw [if_pos rfl, fw64 (by omega)]
      by_cases h6 : (r.f5.length : Int) + (s.f5.length : Int) > 200
      · rw [if_pos h6]; exact yes _ _ _ _ _ _ _ _ _ _ _ _
      · rw [if_neg h6]
        have hrs : smallR r := ⟨by omega, (wf_u32 hr.2.2.2.2.1).1⟩
        have hss : smallR s := ⟨by omega, (wf_u32 hs.2.2.2.2.1).1⟩
        have main : keyR r ≠ keyR s → stolonlaw15_FlowTwo.j0 (9999 + 1) l true false r.f0 r.f1 r.f2 r.f3 r.f4 r.f5 s.f0 s.f1 s.f2 s.f3 s.f4 s.f5 = some true := by
          intro hne
          obtain ⟨e1, e2, e3, e4⟩ := two_eq l r s hri h3 hne
          obtain ⟨a1, a2, a3⟩ := putR_keeps (lim := 5000) hri h4 hrs
          obtain ⟨b1, b2, b3⟩ := putR_keeps (lim := 5000) hri h4 hss
          obtain ⟨c1, c2, c3⟩ := putR_keeps (lim := 5000) a1 a2 hss
          rw [stolonlaw15_FlowTwo.j0, if_neg (by simp), put_ok l r 5000 hri (by omega) (by omega) 9999 (by omega), fbs, put_ok _ s 5000 a1 (by omega) (by omega) 9999 (by omega), fbs, put_ok l s 5000 hri (by omega) (by omega) 9999 (by omega), fbs, put_ok _ r 5000 b1 (by omega) (by omega) 9999 (by omega), fbs, put_ok _ r _ a1 (by omega) (by omega) 9999 (by omega), fbs, if_pos rfl, if_pos e2, if_pos e3, ← e1, rows_refl _ (by omega) c2 9999 (by omega), fbs, if_pos rfl, e4, rows_refl _ (by omega) a2 9999 (by omega), fbs]
        have hne : ∀ (P : Prop), (r.f0 = s.f0 → r.f1 = s.f1 → r.f2 = s.f2 → P) → ¬ P → keyR r ≠ keyR s := by
          intro P hP hn he
          unfold keyR at he
          rw [Prod.mk.injEq, Prod.mk.injEq] at he
          exact hn (hP he.1 he.2.1 he.2.2)
        by_cases g0 : r.f0 = s.f0
        · rw [if_pos g0]
          by_cases g1 : r.f1 = s.f1
          · rw [if_pos g1]
            by_cases g2 : r.f2 = s.f2
            · rw [beq_iff_eq.2 g2]; exact yes _ _ _ _ _ _ _ _ _ _ _ _
            · rw [beq_eq_false_iff_ne.2 g2]; exact main (hne _ (fun _ _ h => h) g2)
          · rw [if_neg g1]; exact main (hne _ (fun _ h _ => h) g1)
        · rw [if_neg g0]; exact main (hne _ (fun h _ _ => h) g0)
end Go.Proofs.Yteibolilodgjnaa.Pure
