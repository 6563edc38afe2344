/- HeapSorts over numbers and lists. -/
import Derived.Test.YtlihbdinghoeeabStHeapSorts
import Derived.Test.YtlihbdinghoeeabHpRef
namespace Go.Proofs.Ytlihbdinghoeeab.Pure
set_option linter.unusedVariables false
open Go.RowKit Go.Proofs.Ytlihbdinghoeeab.P Go.Proofs.YtlihbdinghoeeabW.PrintWords Go.Proofs.YtlihbdinghoeeabW.PrintLast Go.Proofs.YtlihbdinghoeeabW.PrintMore
theorem sorts_loop (l m : List It) (hlm : l.length + m.length ≤ 60) : ∀ (t k i : Nat) (h : List It), m.length - i = t → i ≤ m.length → h.length = l.length + i → h.Perm (l ++ m.take i) → t + 10000 ≤ k → stolonlaw12_HeapSorts.l0 k l m true (sortL l) h i = some true := by
  intro t
  induction t with
  | zero =>
    intro k i h ht hi hh hp hk
    obtain ⟨k, rfl⟩ : ∃ j, k = j + 1 := ⟨k - 1, by omega⟩
    have hlen2 : (sortL l).length ≤ 60 := by rw [sortL_length]; omega
    have ew : wrap64 ((l.length : Int) + (m.length : Int)) = ((l.length + m.length : Nat) : Int) := by rw [w64 (by omega)]; omega
    rw [List.take_of_length_le (by omega)] at hp
    rw [stolonlaw12_HeapSorts.l0, if_neg (by omega)]
    simp only [bs]
    rw [if_pos (by simp; omega), if_pos (by simp; omega), List.nil_append, sort_ok (l ++ m) k (by simp; omega) (by simp; omega), rightR_ok (sortL l) k (by omega) (by omega), sort_ok (sortL l) k (by omega) (by omega), sort_ok h k (by omega) (by omega)]
    simp only [bs]
    rw [if_pos trivial, if_pos (decide_eq_true (sorted_heap (sortL_sorted l))), sortL_of_sorted (sortL_sorted l), same_ok _ _ (by omega) (by omega), sortL_eq hp, same_ok _ _ (by rw [sortL_length]; simp; omega) (by rw [sortL_length]; simp; omega)]
    simp only [bs]
    rw [if_pos trivial, if_pos trivial, ew, sortL_length]
    simp
  | succ t ih =>
    intro k i h ht hi hh hp hk
    obtain ⟨k, rfl⟩ : ∃ j, k = j + 1 := ⟨k - 1, by omega⟩
    have hlt : i < m.length := by omega
    have e2 : wrap64 ((i : Int) + 1) = ((i + 1 : Nat) : Int) := by rw [w64 (by omega)]; omega
    rw [stolonlaw12_HeapSorts.l0, if_pos (by omega), if_pos (by omega), rd_nat, push_ok h (at' m i) k (by omega) (by omega)]
    simp only [bs]
    rw [e2]
    refine ih k (i + 1) (pushL h (at' m i)) (by omega) (by omega) (by rw [pushL_length, hh]; omega) ?_ (by omega)
    rw [List.take_succ_eq_append_getElem hlt, ← at_eq m i hlt, ← List.append_assoc]
    exact (pushL_perm h _).trans (hp.append_right _)
theorem HeapSorts : stolonlaw12_HeapSorts.Pure := by
  intro l m hl hm
  obtain ⟨K, hK⟩ : ∃ K : Nat, K = 20000 + 1 := ⟨_, rfl⟩
  refine ⟨K, ?_⟩
  unfold stolonlaw12_HeapSorts.f
  rw [shown_ok _ (by omega)]
  simp only [bs]
  have b1 := hl.1
  have b2 := hm.1
  have ew : wrap64 ((l.length : Int) + (m.length : Int)) = ((l.length + m.length : Nat) : Int) := by rw [w64 (by omega)]; omega
  rw [ew]
  by_cases h : ((l.length + m.length : Nat) : Int) > 60
  · rw [if_pos h]
  · rw [if_neg h, sort_ok _ _ (by omega) (by omega), make_ok _ _ (by omega) (by omega)]
    simp only [bs]
    have e0 := sorts_loop l m (by omega) m.length K 0 (makeL l) (by omega) (by omega) (by rw [makeL_length]; omega) (by simpa using makeL_perm l) (by omega)
    rw [Int.natCast_zero] at e0
    exact e0
end Go.Proofs.Ytlihbdinghoeeab.Pure
