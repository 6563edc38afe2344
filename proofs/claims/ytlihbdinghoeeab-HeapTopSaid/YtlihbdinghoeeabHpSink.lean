/- Sinking, popping, sorting: plain lemmas on lists. -/
import Derived.Test.YtlihbdinghoeeabHpOrd
namespace Go.Proofs.Ytlihbdinghoeeab.P
set_option linter.unusedVariables false
open Go.RowKit Go.Proofs.YtlihbdinghoeeabW.PrintWords Go.Proofs.YtlihbdinghoeeabW.PrintLast Go.Proofs.YtlihbdinghoeeabW.PrintMore

/-- The least of a place and those below it, as it is found. -/
def child1 (l : List It) (i : Nat) : Nat := if 2 * i + 1 < l.length ∧ lt (at' l (2 * i + 1)) (at' l i) then 2 * i + 1 else i
def least (l : List It) (i : Nat) : Nat := if 2 * i + 2 < l.length ∧ lt (at' l (2 * i + 2)) (at' l (child1 l i)) then 2 * i + 2 else child1 l i
theorem child1_cases (l : List It) (i : Nat) : (child1 l i = 2 * i + 1 ∧ 2 * i + 1 < l.length ∧ lt (at' l (2 * i + 1)) (at' l i)) ∨ (child1 l i = i ∧ (2 * i + 1 < l.length → ¬ lt (at' l (2 * i + 1)) (at' l i))) := by
  unfold child1
  by_cases h : 2 * i + 1 < l.length ∧ lt (at' l (2 * i + 1)) (at' l i)
  · rw [if_pos h]; exact .inl ⟨rfl, h.1, h.2⟩
  · rw [if_neg h]; exact .inr ⟨rfl, fun h1 h2 => h ⟨h1, h2⟩⟩
theorem least_cases (l : List It) (i : Nat) : (least l i = i ∧ (2 * i + 1 < l.length → ¬ lt (at' l (2 * i + 1)) (at' l i)) ∧ (2 * i + 2 < l.length → ¬ lt (at' l (2 * i + 2)) (at' l i))) ∨
    ((least l i = 2 * i + 1 ∨ least l i = 2 * i + 2) ∧ least l i < l.length ∧ lt (at' l (least l i)) (at' l i) ∧ (2 * i + 1 < l.length → ¬ lt (at' l (2 * i + 1)) (at' l (least l i))) ∧ (2 * i + 2 < l.length → ¬ lt (at' l (2 * i + 2)) (at' l (least l i)))) := by
  unfold least
  rcases child1_cases l i with ⟨h1, h2, h3⟩ | ⟨h1, h2⟩
  · rw [h1]
    by_cases h : 2 * i + 2 < l.length ∧ lt (at' l (2 * i + 2)) (at' l (2 * i + 1))
    · rw [if_pos h]
      exact .inr ⟨.inr rfl, h.1, lt_trans h.2 h3, fun _ => lt_asymm h.2, fun _ => lt_irr _⟩
    · rw [if_neg h]
      exact .inr ⟨.inl rfl, h2, h3, fun _ => lt_irr _, fun h4 h5 => h ⟨h4, h5⟩⟩
  · rw [h1]
    by_cases h : 2 * i + 2 < l.length ∧ lt (at' l (2 * i + 2)) (at' l i)
    · rw [if_pos h]
      exact .inr ⟨.inr rfl, h.1, h.2, fun h4 h5 => h2 h4 (lt_trans h5 h.2), fun _ => lt_irr _⟩
    · rw [if_neg h]
      exact .inl ⟨rfl, h2, fun h4 h5 => h ⟨h4, h5⟩⟩
theorem least_ne {l : List It} {i : Nat} (h : least l i ≠ i) : i < least l i ∧ least l i < l.length := by
  rcases least_cases l i with ⟨h1, _⟩ | ⟨h1, h2, _⟩
  · exact absurd h1 h
  · omega

/-- The item at a place sinks. -/
def sinkL (l : List It) (i : Nat) : List It := if least l i = i then l else sinkL (swp l i (least l i)) (least l i)
termination_by l.length - i
decreasing_by
  rename_i h
  have := least_ne h
  rw [swp_length]
  omega
theorem sinkL_length (l : List It) (i : Nat) : (sinkL l i).length = l.length := by
  rw [sinkL]
  split
  · rfl
  · rename_i h
    have := least_ne h
    rw [sinkL_length (swp l i (least l i)) (least l i), swp_length]
termination_by l.length - i
decreasing_by
  rw [swp_length]
  omega
theorem sinkL_perm (l : List It) (i : Nat) : (sinkL l i).Perm l := by
  rw [sinkL]
  split
  · exact .rfl
  · rename_i h
    have := least_ne h
    exact (sinkL_perm (swp l i (least l i)) (least l i)).trans (swp_perm l i _ (by omega) (by omega))
termination_by l.length - i
decreasing_by
  rw [swp_length]
  omega
/-- All is well but for the item at this place, which may be too great. -/
def DownAt (l : List It) (i : Nat) : Prop := (∀ j, 0 < j → j < l.length → (j - 1) / 2 ≠ i → ¬ lt (at' l j) (at' l ((j - 1) / 2))) ∧ (0 < i → ∀ j, 0 < j → j < l.length → (j - 1) / 2 = i → ¬ lt (at' l j) (at' l ((i - 1) / 2)))
theorem sinkL_heap (l : List It) (i : Nat) (h : DownAt l i) : Heap (sinkL l i) := by
  rw [sinkL]
  split
  · rename_i hl
    intro j hj0 hj
    by_cases e : (j - 1) / 2 = i
    · rcases least_cases l i with ⟨_, h2, h3⟩ | ⟨h1, h2, _⟩
      · rw [e]
        rcases (show j = 2 * i + 1 ∨ j = 2 * i + 2 by omega) with rfl | rfl
        · exact h2 hj
        · exact h3 hj
      · omega
    · exact h.1 j hj0 hj e
  · rename_i hl
    have hb := least_ne hl
    refine sinkL_heap (swp l i (least l i)) (least l i) ⟨?_, ?_⟩
    · rcases least_cases l i with ⟨h1, _⟩ | ⟨h1, h2, h3, h4, h5⟩
      · exact absurd h1 hl
      · generalize least l i = b at *
        intro j hj0 hj hne
        rw [swp_length] at hj
        rw [at_swp _ _ _ _ (by omega) h2, at_swp _ _ _ _ (by omega) h2, if_neg (show ¬ b = (j - 1) / 2 from fun e => hne e.symm)]
        by_cases e1 : b = j
        · rw [if_pos e1, if_pos (show i = (j - 1) / 2 by omega)]
          exact lt_asymm h3
        · rw [if_neg e1]
          by_cases e2 : i = j
          · rw [if_pos e2, if_neg (show ¬ i = (j - 1) / 2 by omega)]
            subst e2
            exact h.2 hj0 b (by omega) h2 (by omega)
          · rw [if_neg e2]
            by_cases e3 : i = (j - 1) / 2
            · rw [if_pos e3]
              rcases (show j = 2 * i + 1 ∨ j = 2 * i + 2 by omega) with rfl | rfl
              · exact h4 hj
              · exact h5 hj
            · rw [if_neg e3]
              exact h.1 j hj0 hj (fun e => e3 e.symm)
    · rcases least_cases l i with ⟨h1, _⟩ | ⟨h1, h2, h3, h4, h5⟩
      · exact absurd h1 hl
      · generalize least l i = b at *
        intro hb0 j hj0 hj hpar
        rw [swp_length] at hj
        rw [at_swp _ _ _ _ (by omega) h2, at_swp _ _ _ _ (by omega) h2, if_neg (show ¬ b = j by omega), if_neg (show ¬ i = j by omega), if_neg (show ¬ b = (b - 1) / 2 by omega), if_pos (show i = (b - 1) / 2 by omega)]
        have := h.1 j hj0 hj (by omega)
        rw [hpar] at this
        exact this
termination_by l.length - i
decreasing_by
  rw [swp_length]
  omega

/-- A heap without its first item. -/
def popL (l : List It) : List It := sinkL ((l.set 0 (at' l (l.length - 1))).take (l.length - 1)) 0
theorem popL_length (l : List It) : (popL l).length = l.length - 1 := by
  unfold popL
  rw [sinkL_length, List.length_take, List.length_set]
  omega
theorem popL_heap {l : List It} (h : Heap l) : Heap (popL l) := by
  refine sinkL_heap _ _ ⟨?_, fun h0 => absurd h0 (by omega)⟩
  intro j hj0 hj hne
  rw [List.length_take, List.length_set] at hj
  rw [at_take _ _ _ (by omega), at_take _ _ _ (by omega), at_set _ _ _ _ (by omega), at_set _ _ _ _ (by omega), if_neg (by omega), if_neg (by omega)]
  exact h j hj0 (by omega)
theorem popL_perm {l : List It} (h0 : 0 < l.length) : (at' l 0 :: popL l).Perm l := by
  unfold popL
  refine (List.Perm.cons _ (sinkL_perm _ _)).trans ?_
  rw [List.perm_iff_count]
  intro b
  rcases Nat.lt_or_ge 1 l.length with h1 | h1
  · have e : (l.set 0 (at' l (l.length - 1))) = (l.set 0 (at' l (l.length - 1))).take (l.length - 1) ++ [at' l (l.length - 1)] := by
      apply list_at_ext
      · simp; omega
      · intro i hi
        rw [List.length_set] at hi
        by_cases e2 : i = l.length - 1
        · subst e2
          have hlen : ((l.set 0 (at' l (l.length - 1))).take (l.length - 1)).length = l.length - 1 := by simp
          have := at_append_last ((l.set 0 (at' l (l.length - 1))).take (l.length - 1)) (at' l (l.length - 1))
          rw [hlen] at this
          rw [this, at_set _ _ _ _ h0]
          split <;> rfl
        · rw [at_append_left _ _ _ (by simp; omega), at_take _ _ _ (by omega)]
    have hc := congrArg (List.count b) e
    rw [List.count_set h0, List.count_append, List.count_singleton, ← at_eq l 0 h0] at hc
    rw [List.count_cons]
    have hle : (if (at' l 0 == b) = true then 1 else 0) ≤ l.count b := by
      split
      · rename_i hh
        have : at' l 0 = b := by simpa using hh
        exact List.one_le_count_iff.2 (this ▸ at_mem l 0 h0)
      · omega
    omega
  · have hl1 : l.length = 1 := by omega
    match l, hl1 with
    | [a], _ => simp [at']

/-- A row in order. -/
def Sorted (l : List It) : Prop := l.Pairwise (fun a b => ¬ lt b a)
theorem sorted_unique : ∀ {l m : List It}, Sorted l → Sorted m → l.Perm m → l = m := by
  intro l
  induction l with
  | nil => intro m _ _ h; exact (List.Perm.nil_eq h)
  | cons a l ih =>
    intro m hl hm h
    cases m with
    | nil => exact absurd h.length_eq (by simp)
    | cons b m =>
      obtain ⟨ha, hl2⟩ := List.pairwise_cons.1 hl
      obtain ⟨hb, hm2⟩ := List.pairwise_cons.1 hm
      have e : a = b := by
        have h1 : b ∈ a :: l := h.mem_iff.2 List.mem_cons_self
        have h2 : a ∈ b :: m := h.mem_iff.1 List.mem_cons_self
        rcases List.mem_cons.1 h1 with h1 | h1
        · exact h1.symm
        · rcases List.mem_cons.1 h2 with h2 | h2
          · exact h2
          · exact eq_of_le (hb a h2) (ha b h1)
      subst e
      rw [ih hl2 hm2 ((List.perm_cons a).1 h)]
theorem sorted_heap {l : List It} (h : Sorted l) : Heap l := by
  intro i h0 hi
  have hp : (i - 1) / 2 < l.length := by omega
  rw [at_eq l i hi, at_eq l _ hp]
  exact List.pairwise_iff_getElem.1 h _ _ hp hi (by omega)

/-- All items of a heap, the least first. -/
def drain (l : List It) : List It := if l.length = 0 then [] else at' l 0 :: drain (popL l)
termination_by l.length
decreasing_by
  rw [popL_length]
  omega
theorem drain_perm (l : List It) : (drain l).Perm l := by
  rw [drain]
  split
  · rename_i h
    rw [List.eq_nil_of_length_eq_zero h]
  · rename_i h
    exact (List.Perm.cons _ (drain_perm (popL l))).trans (popL_perm (by omega))
termination_by l.length
decreasing_by
  rw [popL_length]
  omega
theorem drain_sorted (l : List It) (hh : Heap l) : Sorted (drain l) := by
  rw [drain]
  split
  · exact List.Pairwise.nil
  · rename_i h
    refine List.pairwise_cons.2 ⟨fun x hx => ?_, drain_sorted (popL l) (popL_heap hh)⟩
    have hx2 : x ∈ l := (popL_perm (by omega)).mem_iff.1 (List.mem_cons_of_mem _ ((drain_perm _).mem_iff.1 hx))
    exact heap_min_mem hh hx2
termination_by l.length
decreasing_by
  rw [popL_length]
  omega

/-- One item more. -/
def pushL (l : List It) (x : It) : List It := riseL (l ++ [x]) l.length
theorem pushL_length (l : List It) (x : It) : (pushL l x).length = l.length + 1 := by unfold pushL; rw [riseL_length]; simp
theorem pushL_heap {l : List It} (h : Heap l) (x : It) : Heap (pushL l x) := riseL_heap _ _ (by simp) (push_up h x)
theorem pushL_perm (l : List It) (x : It) : (pushL l x).Perm (l ++ [x]) := riseL_perm _ _ (by simp)
def makeL (l : List It) : List It := l.foldl pushL []
theorem foldl_push_heap (m : List It) : ∀ l, Heap l → Heap (m.foldl pushL l) := by
  induction m with
  | nil => exact fun l h => h
  | cons x m ih => exact fun l h => ih _ (pushL_heap h x)
theorem foldl_push_perm (m : List It) : ∀ l, (m.foldl pushL l).Perm (l ++ m) := by
  induction m with
  | nil => intro l; simp
  | cons x m ih =>
    intro l
    refine (ih (pushL l x)).trans ?_
    have := (pushL_perm l x).append_right m
    simpa using this
theorem heap_nil : Heap [] := fun i _ h => absurd h (by simp)
theorem makeL_heap (l : List It) : Heap (makeL l) := foldl_push_heap l [] heap_nil
theorem makeL_perm (l : List It) : (makeL l).Perm l := by
  have := foldl_push_perm l []
  rwa [List.nil_append] at this
theorem makeL_length (l : List It) : (makeL l).length = l.length := (makeL_perm l).length_eq
def sortL (l : List It) : List It := drain (makeL l)
theorem sortL_sorted (l : List It) : Sorted (sortL l) := drain_sorted _ (makeL_heap l)
theorem sortL_perm (l : List It) : (sortL l).Perm l := (drain_perm _).trans (makeL_perm l)
theorem sortL_length (l : List It) : (sortL l).length = l.length := (sortL_perm l).length_eq
theorem sortL_eq {l m : List It} (h : l.Perm m) : sortL l = sortL m := sorted_unique (sortL_sorted l) (sortL_sorted m) ((sortL_perm l).trans (h.trans (sortL_perm m).symm))
theorem sortL_of_sorted {l : List It} (h : Sorted l) : sortL l = l := sorted_unique (sortL_sorted l) h (sortL_perm l)
end Go.Proofs.Ytlihbdinghoeeab.P
