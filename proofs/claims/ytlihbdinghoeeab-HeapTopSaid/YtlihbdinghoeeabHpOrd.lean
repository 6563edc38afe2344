/- Items and their order; rows of items, swaps, heaps: plain lemmas on lists. -/
import Derived.Test.YtlihbdinghoeeabPx0
namespace Go.Proofs.Ytlihbdinghoeeab.P
set_option linter.unusedVariables false
open Go.RowKit Go.Proofs.YtlihbdinghoeeabW.PrintWords Go.Proofs.YtlihbdinghoeeabW.PrintLast Go.Proofs.YtlihbdinghoeeabW.PrintMore
abbrev It := S24
theorem it_ext {a b : It} (h0 : a.f0 = b.f0) (h1 : a.f1 = b.f1) : a = b := by
  cases a; cases b; simp_all
instance : DecidableEq It := fun a b => if h : a.f0 = b.f0 ∧ a.f1 = b.f1 then isTrue (it_ext h.1 h.2) else isFalse (fun e => h (by subst e; exact ⟨rfl, rfl⟩))
/-- One item is less than another. -/
def lt (a b : It) : Prop := a.f0 < b.f0 ∨ (a.f0 = b.f0 ∧ a.f1 < b.f1)
instance (a b : It) : Decidable (lt a b) := by unfold lt; infer_instance
theorem lt_irr (a : It) : ¬ lt a a := by unfold lt; omega
theorem lt_trans {a b c : It} (h1 : lt a b) (h2 : lt b c) : lt a c := by unfold lt at *; omega
theorem lt_asymm {a b : It} (h : lt a b) : ¬ lt b a := by unfold lt at *; omega
theorem le_trans' {a b c : It} (h1 : ¬ lt b a) (h2 : ¬ lt c b) : ¬ lt c a := by unfold lt at *; omega
theorem lt_of_lt_le {a b c : It} (h1 : lt a b) (h2 : ¬ lt c b) : lt a c := by unfold lt at *; omega
theorem eq_of_le {a b : It} (h1 : ¬ lt a b) (h2 : ¬ lt b a) : a = b := by
  unfold lt at *
  exact it_ext (by omega) (by omega)
theorem lt_of_ne {a b : It} (h1 : a ≠ b) (h2 : ¬ lt a b) : lt b a := by
  rcases Decidable.em (lt b a) with h | h
  · exact h
  · exact absurd (eq_of_le h2 h) h1

/-- The item at a place. -/
def at' (l : List It) (i : Nat) : It := l.getD i z24
theorem at_eq (l : List It) (i : Nat) (h : i < l.length) : at' l i = l[i] := by unfold at'; simp [List.getD_eq_getElem?_getD, List.getElem?_eq_getElem h]
theorem rd_nat (l : List It) (i : Nat) : rd_T24 l (i : Int) = at' l i := rfl
theorem at_set (l : List It) (i j : Nat) (v : It) (h : i < l.length) : at' (l.set i v) j = if i = j then v else at' l j := by
  unfold at'
  rw [List.getD_eq_getElem?_getD, List.getElem?_set]
  by_cases e : i = j
  · simp [e, show j < l.length from e ▸ h]
  · simp [e, List.getD_eq_getElem?_getD]
theorem at_append_left (l m : List It) (i : Nat) (h : i < l.length) : at' (l ++ m) i = at' l i := by
  unfold at'
  rw [List.getD_eq_getElem?_getD, List.getD_eq_getElem?_getD, List.getElem?_append_left h]
theorem at_append_last (l : List It) (x : It) : at' (l ++ [x]) l.length = x := by
  unfold at'
  simp [List.getD_eq_getElem?_getD]
theorem at_take (l : List It) (n i : Nat) (h : i < n) : at' (l.take n) i = at' l i := by
  unfold at'
  rw [List.getD_eq_getElem?_getD, List.getD_eq_getElem?_getD, List.getElem?_take_of_lt h]
theorem at_mem (l : List It) (i : Nat) (h : i < l.length) : at' l i ∈ l := by rw [at_eq l i h]; exact List.getElem_mem h
theorem mem_at {l : List It} {x : It} (h : x ∈ l) : ∃ i, i < l.length ∧ at' l i = x := by
  obtain ⟨i, hi, rfl⟩ := List.getElem_of_mem h
  exact ⟨i, hi, at_eq l i hi⟩
theorem list_at_ext {l m : List It} (hl : l.length = m.length) (h : ∀ i, i < l.length → at' l i = at' m i) : l = m := by
  apply List.ext_getElem hl
  intro i h1 h2
  have := h i h1
  rwa [at_eq l i h1, at_eq m i h2] at this

/-- Two places change their items. -/
def swp (l : List It) (i j : Nat) : List It := (l.set i (at' l j)).set j (at' l i)
theorem swp_length (l : List It) (i j : Nat) : (swp l i j).length = l.length := by simp [swp]
theorem at_swp (l : List It) (i j k : Nat) (hi : i < l.length) (hj : j < l.length) : at' (swp l i j) k = if j = k then at' l i else if i = k then at' l j else at' l k := by
  unfold swp
  rw [at_set _ _ _ _ (by simpa using hj), at_set _ _ _ _ hi]
theorem swp_perm (l : List It) (i j : Nat) (hi : i < l.length) (hj : j < l.length) : (swp l i j).Perm l := by
  rw [List.perm_iff_count]
  intro b
  unfold swp
  have hj' : j < (l.set i (at' l j)).length := by simpa using hj
  rw [List.count_set hj', List.count_set hi]
  have e1 : (l.set i (at' l j))[j]'hj' = at' l j := by
    rw [← at_eq _ j hj', at_set _ _ _ _ hi]
    by_cases e : i = j <;> simp [e]
  rw [e1, ← at_eq l i hi]
  have hc : (if (at' l i == b) = true then 1 else 0) ≤ l.count b := by
    split
    · rename_i h
      have : at' l i = b := by simpa using h
      exact List.one_le_count_iff.2 (this ▸ at_mem l i hi)
    · omega
  omega

/-- No item is less than the one above it. -/
def Heap (l : List It) : Prop := ∀ i, 0 < i → i < l.length → ¬ lt (at' l i) (at' l ((i - 1) / 2))
theorem heap_min {l : List It} (h : Heap l) : ∀ i, i < l.length → ¬ lt (at' l i) (at' l 0) := by
  intro i
  induction i using Nat.strongRecOn with
  | _ i ih =>
    intro hi
    rcases Nat.eq_zero_or_pos i with h0 | h0
    · subst h0; exact lt_irr _
    · exact le_trans' (ih ((i - 1) / 2) (by omega) (by omega)) (h i h0 hi)
theorem heap_min_mem {l : List It} (h : Heap l) {x : It} (hx : x ∈ l) : ¬ lt x (at' l 0) := by
  obtain ⟨i, hi, rfl⟩ := mem_at hx
  exact heap_min h i hi
theorem heap_take {l : List It} (h : Heap l) (n : Nat) : Heap (l.take n) := by
  intro i h0 hi
  rw [List.length_take] at hi
  rw [at_take _ _ _ (by omega), at_take _ _ _ (by omega)]
  exact h i h0 (by omega)

/-- The item at a place rises. -/
def riseL (l : List It) (i : Nat) : List It := if 0 < i ∧ lt (at' l i) (at' l ((i - 1) / 2)) then riseL (swp l i ((i - 1) / 2)) ((i - 1) / 2) else l
termination_by i
decreasing_by omega
theorem riseL_length (l : List It) (i : Nat) : (riseL l i).length = l.length := by
  induction i using Nat.strongRecOn generalizing l with
  | _ i ih =>
    rw [riseL]
    split
    · rename_i h
      rw [ih ((i - 1) / 2) (by omega), swp_length]
    · rfl
theorem riseL_perm (l : List It) (i : Nat) (hi : i < l.length) : (riseL l i).Perm l := by
  induction i using Nat.strongRecOn generalizing l with
  | _ i ih =>
    rw [riseL]
    split
    · rename_i h
      exact (ih ((i - 1) / 2) (by omega) _ (by rw [swp_length]; omega)).trans (swp_perm l i _ hi (by omega))
    · exact .rfl
/-- All is well but for the item at this place, which may be too small. -/
def UpAt (l : List It) (i : Nat) : Prop := (∀ j, 0 < j → j < l.length → j ≠ i → ¬ lt (at' l j) (at' l ((j - 1) / 2))) ∧ (0 < i → ∀ j, 0 < j → j < l.length → (j - 1) / 2 = i → ¬ lt (at' l j) (at' l ((i - 1) / 2)))
theorem riseL_heap (l : List It) (i : Nat) (hi : i < l.length) (h : UpAt l i) : Heap (riseL l i) := by
  induction i using Nat.strongRecOn generalizing l with
  | _ i ih =>
    rw [riseL]
    split
    · rename_i hc
      obtain ⟨h0, hlt⟩ := hc
      have hp : (i - 1) / 2 < l.length := by omega
      refine ih ((i - 1) / 2) (by omega) _ (by rw [swp_length]; omega) ⟨?_, ?_⟩
      · intro j hj0 hj hne
        rw [swp_length] at hj
        rw [at_swp _ _ _ _ hi hp, at_swp _ _ _ _ hi hp, if_neg (show ¬ (i - 1) / 2 = j by omega)]
        by_cases e1 : i = j
        · subst e1
          rw [if_pos rfl, if_pos rfl]
          exact lt_asymm hlt
        · rw [if_neg e1]
          by_cases e2 : (i - 1) / 2 = (j - 1) / 2
          · rw [if_pos e2]
            have h1 := h.1 j hj0 hj (by omega)
            rw [← e2] at h1
            exact le_trans' (lt_asymm hlt) h1
          · rw [if_neg e2]
            by_cases e3 : i = (j - 1) / 2
            · rw [if_pos e3]
              exact h.2 h0 j hj0 hj e3.symm
            · rw [if_neg e3]
              exact h.1 j hj0 hj (by omega)
      · intro hp0 j hj0 hj hpar
        rw [swp_length] at hj
        rw [at_swp _ _ _ _ hi hp, at_swp _ _ _ _ hi hp, if_neg (show ¬ (i - 1) / 2 = j by omega), if_neg (show ¬ (i - 1) / 2 = ((i - 1) / 2 - 1) / 2 by omega), if_neg (show ¬ i = ((i - 1) / 2 - 1) / 2 by omega)]
        have hgp := h.1 ((i - 1) / 2) hp0 (by omega) (by omega)
        by_cases e1 : i = j
        · rw [if_pos e1]
          exact hgp
        · rw [if_neg e1]
          have h1 := h.1 j hj0 hj (by omega)
          rw [hpar] at h1
          exact le_trans' hgp h1
    · rename_i hc
      intro j hj0 hj
      by_cases e : j = i
      · subst e
        intro hl
        exact hc ⟨hj0, hl⟩
      · exact h.1 j hj0 hj e
theorem push_up {l : List It} (h : Heap l) (x : It) : UpAt (l ++ [x]) l.length := by
  refine ⟨?_, ?_⟩
  · intro j hj0 hj hne
    rw [List.length_append, List.length_singleton] at hj
    rw [at_append_left _ _ _ (by omega), at_append_left _ _ _ (by omega)]
    exact h j hj0 (by omega)
  · intro h0 j hj0 hj hpar
    rw [List.length_append, List.length_singleton] at hj
    omega

end Go.Proofs.Ytlihbdinghoeeab.P
