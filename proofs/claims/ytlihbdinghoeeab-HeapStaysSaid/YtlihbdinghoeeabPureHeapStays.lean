/- HeapStays over numbers and lists. -/
import Derived.Test.YtlihbdinghoeeabStHeapStays
import Derived.Test.YtlihbdinghoeeabHpRef
namespace Go.Proofs.Ytlihbdinghoeeab.Pure
set_option linter.unusedVariables false
open Go.RowKit Go.Proofs.Ytlihbdinghoeeab.P Go.Proofs.YtlihbdinghoeeabW.PrintWords Go.Proofs.YtlihbdinghoeeabW.PrintLast Go.Proofs.YtlihbdinghoeeabW.PrintMore
theorem stays_loop (m : List It) (x y : It) (hm : m.length ≤ 1000) (hy : ∀ z, z ∈ m → ¬ lt z y) (hxy : ¬ lt x y) : ∀ (t k i : Nat), m.length - i = t → i ≤ m.length → t + 10 ≤ k → stolonlaw12_HeapStays.l0 k true m i x.f0 x.f1 y.f0 y.f1 = some true := by
  intro t
  induction t with
  | zero =>
    intro k i ht hi hk
    obtain ⟨k, rfl⟩ : ∃ j, k = j + 1 := ⟨k - 1, by omega⟩
    rw [stolonlaw12_HeapStays.l0, if_neg (by omega), if_pos rfl, less_ok x y k (by omega)]
    simp [hxy]
  | succ t ih =>
    intro k i ht hi hk
    obtain ⟨k, rfl⟩ : ∃ j, k = j + 1 := ⟨k - 1, by omega⟩
    have e2 : wrap64 ((i : Int) + 1) = ((i + 1 : Nat) : Int) := by rw [w64 (by omega)]; omega
    rw [stolonlaw12_HeapStays.l0, if_pos (by omega), if_pos (by omega), rd_nat, less_ok _ _ _ (by omega)]
    simp only [Option.bind_some, decide_eq_true_eq]
    rw [if_neg (hy _ (at_mem m i (by omega))), e2]
    exact ih k (i + 1) (by omega) (by omega) (by omega)
theorem stays_j (l : List It) (x : It) (k : Nat) (hk : 20000 ≤ k) (hl : l.length ≤ 100) (h : Heap l) : stolonlaw12_HeapStays.j0 (k + 1 + 1) l true false x.f0 x.f1 = some true := by
  have hp := pushL_heap h x
  have hpl := pushL_length l x
  have hql := popL_length (pushL l x)
  have hw : wrap64 ((l.length : Int) + 1) = ((l.length + 1 : Nat) : Int) := by rw [w64 (by omega)]; omega
  have hmem : ∀ z, z ∈ popL (pushL l x) → z ∈ pushL l x := fun z hz => (popL_perm (l := pushL l x) (by omega)).mem_iff.1 (List.mem_cons_of_mem _ hz)
  have hx : x ∈ pushL l x := (pushL_perm l x).mem_iff.2 (by simp)
  rw [stolonlaw12_HeapStays.j0, if_neg (by simp), push_ok l x _ (by omega) (by omega)]
  simp only [Option.bind_some]
  rw [pop_ok (pushL l x) _ (by omega) (by omega) (by omega), rightR_ok _ _ (by omega) (by omega)]
  simp only [Option.bind_some, decide_eq_true_eq]
  rw [if_pos hp, hw, if_pos (by omega), if_pos trivial, rightR_ok _ _ (by omega) (by omega)]
  simp only [Option.bind_some, decide_eq_true_eq]
  rw [if_pos (popL_heap hp), stolonlaw12_HeapStays.j1, if_neg (by simp; omega)]
  exact stays_loop (popL (pushL l x)) x (at' (pushL l x) 0) (by omega) (fun z hz => heap_min_mem hp (hmem z hz)) (heap_min_mem hp hx) _ k 0 rfl (by omega) (by omega)
theorem HeapStays : stolonlaw12_HeapStays.Pure := by
  intro l x hl _
  refine ⟨20000 + 1 + 1, ?_⟩
  unfold stolonlaw12_HeapStays.f
  rw [shown_ok _ (by omega)]
  simp only [Option.bind_some]
  by_cases h : (l.length : Int) > 100
  · rw [if_pos h, stolonlaw12_HeapStays.j0, if_pos rfl]
  · rw [if_neg h, rightR_ok _ _ (by omega) (by omega)]
    simp only [Option.bind_some]
    by_cases hh : Heap l
    · rw [decide_eq_true hh]
      exact stays_j l x 20000 (by omega) (by omega) hh
    · rw [decide_eq_false hh, stolonlaw12_HeapStays.j0, if_pos (show (!false) = true from rfl)]
end Go.Proofs.Ytlihbdinghoeeab.Pure
