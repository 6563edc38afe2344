/- QuerierOne over numbers: of two that hear one another the one of the lesser address asks alone, but for the first tick. -/
import Derived.Test.YtlihbdinghoeeaaStQuerierOne
import Derived.Test.YtlihbdinghoeeaaQLib
namespace Go.Proofs.Ytlihbdinghoeeaa.Pure
open Go.RowKit Go.Proofs.Ytlihbdinghoeeaa.P Go.Proofs.YtlihbdinghoeeaaW.PrintWords Go.Proofs.YtlihbdinghoeeaaW.PrintLast Go.Proofs.YtlihbdinghoeeaaW.PrintMore
theorem one_loop (a b c d A B n : Int) (hp : MayP a b c d) (hA : 0 < A) (hAB : A < B) (hda : a < d) (hdb : b < d) (hn : 0 ≤ n ∧ n ≤ 200) : ∀ (t k : Nat) (i nx so l ny sy : Int), n + 1 - i = t → 2 * t < k → 1 ≤ i →
    0 ≤ nx ∧ nx ≤ 1000000 → 0 ≤ so ∧ so ≤ 100 → RightP B A l ny sy → nx + 1 ≤ l → stolonlaw10_QuerierOne.l0 k A B n true i a b c d A 0 0 nx so B A l ny sy = some true := by
  intro t
  induction t with
  | zero =>
    intro k i nx so l ny sy ht hk h0 _ _ _ _
    obtain ⟨k, rfl⟩ : ∃ j, k = j + 1 := ⟨k - 1, by omega⟩
    rw [stolonlaw10_QuerierOne.l0, w64 (by omega), if_neg (by omega), asks_prog, asks_prog]
    simp only [Option.bind_some, if_true, beq_self_eq_true]
    exact congrArg some (by rw [beq_eq_false_iff_ne.2 (by omega)]; rfl)
  | succ t ih =>
    intro k i nx so l ny sy ht hk h0 hnx hso hy hl
    obtain ⟨k, rfl⟩ : ∃ j, k = j + 1 + 1 := ⟨k - 2, by omega⟩
    have hp' := hp
    have hy' := hy
    unfold MayP at hp'
    unfold RightP at hy'
    rw [stolonlaw10_QuerierOne.l0, w64 (x := n) (by omega), if_pos (by omega), tick_prog a b c d A 0 0 nx so hp (by unfold RightP; omega), tick_prog a b c d B A l ny sy hp hy]
    simp only [Option.bind_some]
    have hi : wrap64 (i + 1) = i + 1 := w64 (by omega)
    have hA0 : ¬ A = 0 := by omega
    by_cases h1 : 0 < nx
    · have e1 : tickS a b c A 0 0 nx so = (A, 0, 0, nx - 1, so, false) := by unfold tickS; rw [if_pos rfl, if_pos h1]
      have e2 : tickS a b c B A l ny sy = (B, A, l - 1, ny, sy, false) := by unfold tickS; rw [if_neg hA0, if_pos (by omega)]
      rw [e1, e2]
      simp only [Bool.false_eq_true, if_false]
      rw [stolonlaw10_QuerierOne.j2]
      simp only [Bool.false_eq_true, if_false]
      rw [hi]
      exact ih k (i + 1) (nx - 1) so (l - 1) ny sy (by omega) (by omega) (by omega) (by omega) hso (by unfold RightP; omega) (by omega)
    · obtain ⟨nx1, so1, e1, hb1, hb2⟩ : ∃ nx1 so1 : Int, tickS a b c A 0 0 nx so = (A, 0, 0, nx1, so1, true) ∧ (0 ≤ nx1 ∧ nx1 + 2 ≤ d) ∧ 0 ≤ so1 ∧ so1 ≤ 100 := by
        unfold tickS
        rw [if_pos rfl, if_neg h1]
        by_cases h2 : 1 < so
        · exact ⟨_, _, by rw [if_pos h2], by omega, by omega⟩
        · exact ⟨_, _, by rw [if_neg h2], by omega, by omega⟩
      obtain ⟨o2, l2, ny2, sy2, e2, hr2, ho2⟩ : ∃ o2 l2 ny2 sy2 : Int, tickS a b c B A l ny sy = (B, o2, l2, ny2, sy2, false) ∧ RightP B o2 l2 ny2 sy2 ∧ (o2 = 0 ∨ o2 = A) := by
        unfold tickS
        rw [if_neg hA0]
        by_cases h2 : 1 < l
        · exact ⟨_, _, _, _, by rw [if_pos h2], by unfold RightP; omega, .inr rfl⟩
        · exact ⟨_, _, _, _, by rw [if_neg h2], by unfold RightP; omega, .inl rfl⟩
      rw [e1, e2]
      simp only [Bool.false_eq_true, if_false]
      rw [stolonlaw10_QuerierOne.j2]
      simp only [Bool.false_eq_true, if_false, if_true]
      rw [hear_prog a b c d B o2 l2 ny2 sy2 A (by omega), if_neg (by omega)]
      simp only [Option.bind_some]
      rw [hi]
      unfold RightP at hr2
      exact ih k (i + 1) nx1 so1 d ny2 sy2 (by omega) (by omega) (by omega) (by omega) hb2 (by unfold RightP; omega) (by omega)
theorem QuerierOne : stolonlaw10_QuerierOne.Pure := by
  intro x hx
  refine ⟨410, ?_⟩
  have hA := wf_u32 hx.2.1
  have hB := wf_u32 hx.2.2.1
  have hn := wf_u8 hx.2.2.2
  generalize x.f0.f0 = a, x.f0.f1 = b, x.f0.f2 = c, x.f0.f3 = d at *
  generalize x.f1 = A, x.f2 = B, x.f3 = n at *
  unfold stolonlaw10_QuerierOne.f
  rw [shown_true, may_ref]
  simp only [Option.bind_some]
  have hj : ∀ j, stolonlaw10_QuerierOne.j0 (j + 1) A B n true true a b c d = some true := by
    intro j
    rw [stolonlaw10_QuerierOne.j0, if_pos rfl]
  by_cases hp : MayP a b c d
  · rw [if_pos (by simpa using hp)]
    by_cases h1 : A = 0
    · rw [if_pos h1]; exact hj 409
    · rw [if_neg h1]
      by_cases h2 : A ≥ B
      · rw [if_pos h2]; exact hj 409
      · rw [if_neg h2]
        by_cases h3 : d ≤ a
        · rw [if_pos h3]; exact hj 409
        · rw [if_neg h3]
          by_cases h4 : d ≤ b
          · rw [if_pos h4]; exact hj 409
          · rw [if_neg h4]
            by_cases h5 : n > 200
            · rw [decide_eq_true h5]; exact hj 409
            · rw [decide_eq_false h5, stolonlaw10_QuerierOne.j0]
              rw [if_neg (by simp), new_prog, if_pos ⟨hp, h1⟩, new_prog, if_pos ⟨hp, by omega⟩]
              simp only [Option.bind_some]
              have hp' := hp
              unfold MayP at hp'
              rw [stolonlaw10_QuerierOne.l0, w64 (x := n) (by omega), if_pos (by omega), tick_prog a b c d A 0 0 0 c hp (by unfold RightP; omega), tick_prog a b c d B 0 0 0 c hp (by unfold RightP; omega)]
              simp only [Option.bind_some]
              have e : ∀ M : Int, ∃ nx1 so1 : Int, tickS a b c M 0 0 0 c = (M, 0, 0, nx1, so1, true) ∧ (0 ≤ nx1 ∧ nx1 + 2 ≤ d) ∧ 0 ≤ so1 ∧ so1 ≤ 100 := by
                intro M
                unfold tickS
                rw [if_pos rfl, if_neg (by omega)]
                by_cases h2 : 1 < c
                · exact ⟨_, _, by rw [if_pos h2], by omega, by omega⟩
                · exact ⟨_, _, by rw [if_neg h2], by omega, by omega⟩
              obtain ⟨n1, s1, e1, hb1, hb2⟩ := e A
              obtain ⟨n2, s2, e2, hc1, hc2⟩ := e B
              rw [e1, e2]
              simp only [if_true]
              rw [stolonlaw10_QuerierOne.j2, if_neg (by simp)]
              simp only [if_true]
              rw [hear_prog a b c d B 0 0 n2 s2 A (by omega), if_neg (by omega), hear_prog a b c d A 0 0 n1 s1 B (by omega), if_pos (by omega)]
              simp only [Option.bind_some]
              rw [w64 (by omega)]
              exact one_loop a b c d A B n hp (by omega) (by omega) (by omega) (by omega) (by omega) n.toNat 407 (0 + 1) n1 s1 d n2 s2 (by omega) (by omega) (by omega) (by omega) hb2 (by unfold RightP; omega) (by omega)
  · rw [if_neg (by simpa using hp)]
    exact hj 409
end Go.Proofs.Ytlihbdinghoeeaa.Pure
