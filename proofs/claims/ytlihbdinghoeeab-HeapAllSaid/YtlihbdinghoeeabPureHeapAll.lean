/- HeapAll over numbers and lists. -/
import Derived.Test.YtlihbdinghoeeabStHeapAll
import Derived.Test.YtlihbdinghoeeabHpRef
namespace Go.Proofs.Ytlihbdinghoeeab.Pure
set_option linter.unusedVariables false
open Go.RowKit Go.Proofs.Ytlihbdinghoeeab.P Go.Proofs.YtlihbdinghoeeabW.PrintWords Go.Proofs.YtlihbdinghoeeabW.PrintLast Go.Proofs.YtlihbdinghoeeabW.PrintMore
theorem all_loop (s : List It) (hs : s.length ≤ 60) (ho : Sorted s) : ∀ (t k i : Nat) (h : List It), s.length - i = t → i ≤ s.length → h.length = t → s.drop i = Go.Proofs.Ytlihbdinghoeeab.P.drain h → t + 1000 ≤ k → stolonlaw12_HeapAll.l0 k true s h i = some true := by
  intro t
  induction t with
  | zero =>
    intro k i h ht hi hh hd hk
    obtain ⟨k, rfl⟩ : ∃ j, k = j + 1 := ⟨k - 1, by omega⟩
    rw [stolonlaw12_HeapAll.l0, if_neg (by omega), if_pos rfl, hh]
    rfl
  | succ t ih =>
    intro k i h ht hi hh hd hk
    obtain ⟨k, rfl⟩ : ∃ j, k = j + 1 := ⟨k - 1, by omega⟩
    have hlt : i < s.length := by omega
    have e2 : wrap64 ((i : Int) + 1) = ((i + 1 : Nat) : Int) := by rw [w64 (by omega)]; omega
    rw [Go.Proofs.Ytlihbdinghoeeab.P.drain, if_neg (by omega), List.drop_eq_getElem_cons hlt] at hd
    obtain ⟨hd1, hd2⟩ := List.cons.inj hd
    rw [← at_eq s i hlt] at hd1
    have next := ih k (i + 1) (popL h) (by omega) (by omega) (by rw [popL_length]; omega) hd2 (by omega)
    rw [stolonlaw12_HeapAll.l0, if_pos (by omega), pop_ok h _ (by omega) (by omega) (by omega)]
    simp only [Option.bind_some]
    rw [if_pos trivial, if_pos (by omega), rd_nat, ← hd1, if_neg (by simp)]
    by_cases h0 : 0 < i
    · have e1 : wrap64 ((i : Int) - 1) = ((i - 1 : Nat) : Int) := by rw [w64 (by omega)]; omega
      rw [if_pos (by omega), e1, if_pos (by omega), if_pos (by omega), rd_nat, less_ok _ _ _ (by omega)]
      simp only [Option.bind_some, decide_eq_true_eq]
      have hle : ¬ lt (at' s i) (at' s (i - 1)) := by
        rw [at_eq s i hlt, at_eq s (i - 1) (by omega)]
        exact (List.pairwise_iff_getElem.1 ho) (i - 1) i (by omega) hlt (by omega)
      rw [if_neg hle, e2]
      exact next
    · rw [if_neg (by omega), e2]
      exact next
theorem HeapAll : stolonlaw12_HeapAll.Pure := by
  intro l x hl _
  refine ⟨20000 + 1, ?_⟩
  unfold stolonlaw12_HeapAll.f
  rw [shown_ok _ (by omega)]
  simp only [Option.bind_some]
  by_cases h : (l.length : Int) > 60
  · rw [if_pos h]
  · rw [if_neg h, sort_ok _ _ (by omega) (by omega), make_ok _ _ (by omega) (by omega), many_ok l x _ (by omega) (by omega)]
    simp only [Option.bind_some]
    rw [many_ok _ x _ (by rw [sortL_length]; omega) (by rw [sortL_length]; omega), many_ok _ x _ (by rw [makeL_length]; omega) (by rw [makeL_length]; omega)]
    simp only [Option.bind_some]
    rw [(sortL_perm l).count_eq, (makeL_perm l).count_eq, if_pos rfl, if_pos rfl, stolonlaw12_HeapAll.j0, if_neg (by rw [sortL_length]; simp)]
    rw [show (0 : Int) = ((0 : Nat) : Int) from rfl]
    exact all_loop (sortL l) (by rw [sortL_length]; omega) (sortL_sorted l) l.length 20000 0 (makeL l) (by rw [sortL_length]; omega) (by omega) (makeL_length l) rfl (by omega)
end Go.Proofs.Ytlihbdinghoeeab.Pure
