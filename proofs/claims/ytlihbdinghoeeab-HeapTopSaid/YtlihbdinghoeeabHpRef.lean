/- The heap's reference functions as the same plain functions of rows; heaps asked about; what a row holds how often. -/
import Derived.Test.YtlihbdinghoeeabHpFun
import Derived.Test.YtlihbdinghoeeabPx10
import Derived.Test.YtlihbdinghoeeabPx12
import Derived.Test.YtlihbdinghoeeabPx16
import Derived.Test.YtlihbdinghoeeabPx18
import Derived.Test.YtlihbdinghoeeabPx19
import Derived.Test.YtlihbdinghoeeabPx21
import Derived.Test.YtlihbdinghoeeabPx22
import Derived.Test.YtlihbdinghoeeabPx24
import Derived.Test.YtlihbdinghoeeabPx9
namespace Go.Proofs.Ytlihbdinghoeeab.P
set_option linter.unusedVariables false
open Go.RowKit Go.Proofs.YtlihbdinghoeeabW.PrintWords Go.Proofs.YtlihbdinghoeeabW.PrintLast Go.Proofs.YtlihbdinghoeeabW.PrintMore

/-- As a step of its own: the kernel then need not find it by unfolding. -/
theorem bs {α β : Type} (a : α) (f : α → Option β) : (some a).bind f = f a := by
  have h := Option.bind_some a f
  exact h

/-! ### is it a heap? -/
theorem heap_iff (l : List It) : Heap l ↔ ∀ i, i < l.length → 0 < i → ¬ lt (at' l i) (at' l ((i - 1) / 2)) := ⟨fun h i h1 h2 => h i h2 h1, fun h i h2 h1 => h i h1 h2⟩
instance (l : List It) : Decidable (Heap l) := decidable_of_iff _ (heap_iff l).symm
theorem right_loop (l : List It) (hl : l.length ≤ 1000000) : ∀ (t k i : Nat), l.length - i = t → i ≤ l.length → t + 6 ≤ k → (∀ j, j < i → 0 < j → ¬ lt (at' l j) (at' l ((j - 1) / 2))) → heap_Right.l0 k l (l.length : Int) i = some (decide (Heap l)) := by
  intro t
  induction t with
  | zero =>
    intro k i ht hi hk h
    obtain ⟨k, rfl⟩ : ∃ j, k = j + 1 := ⟨k - 1, by omega⟩
    rw [heap_Right.l0, if_neg (by omega)]
    exact congrArg some (decide_eq_true ((heap_iff l).2 fun j hj => h j (by omega))).symm
  | succ t ih =>
    intro k i ht hi hk h
    obtain ⟨k, rfl⟩ : ∃ j, k = j + 1 := ⟨k - 1, by omega⟩
    have e : wrap64 ((i : Int) + 1) = ((i + 1 : Nat) : Int) := by rw [w64 (by omega)]; omega
    rw [heap_Right.l0, if_pos (by omega)]
    by_cases h0 : 0 < i
    · rw [if_pos (by omega), if_pos (by omega), if_pos (by omega), above_ok i h0 (by omega)]
      simp only [Option.bind_some]
      rw [if_pos (by omega), if_pos (by omega), less_ok _ _ _ (by omega), rd_nat, rd_nat]
      simp only [Option.bind_some, decide_eq_true_eq]
      by_cases hlt : lt (at' l i) (at' l ((i - 1) / 2))
      · rw [if_pos hlt]
        exact congrArg some (decide_eq_false (fun hh => hh i h0 (by omega) hlt)).symm
      · rw [if_neg hlt, e]
        refine ih k (i + 1) (by omega) (by omega) (by omega) (fun j hj hj0 => ?_)
        by_cases ej : j = i
        · subst ej; exact hlt
        · exact h j (by omega) hj0
    · rw [if_neg (by omega), e]
      exact ih k (i + 1) (by omega) (by omega) (by omega) (fun j hj hj0 => by omega)
theorem right_ok (l : List It) (k : Nat) (hl : l.length ≤ 1000000) (hk : l.length + 6 ≤ k) : heap_Right.f k l = some (decide (Heap l)) := by
  unfold heap_Right.f
  exact right_loop l hl l.length k 0 (by omega) (by omega) hk (fun j hj => by omega)
theorem heap_of_below {l : List It} (h : ∀ i, i < l.length → (2 * i + 1 < l.length → ¬ lt (at' l (2 * i + 1)) (at' l i)) ∧ (2 * i + 2 < l.length → ¬ lt (at' l (2 * i + 2)) (at' l i))) : Heap l := by
  intro j hj0 hj
  have h1 := h ((j - 1) / 2) (by omega)
  rcases (show j = 2 * ((j - 1) / 2) + 1 ∨ j = 2 * ((j - 1) / 2) + 2 by omega) with e | e
  · have := h1.1 (by omega)
    rwa [← e] at this
  · have := h1.2 (by omega)
    rwa [← e] at this
theorem below_of_heap {l : List It} (h : Heap l) (i : Nat) : (2 * i + 1 < l.length → ¬ lt (at' l (2 * i + 1)) (at' l i)) ∧ (2 * i + 2 < l.length → ¬ lt (at' l (2 * i + 2)) (at' l i)) := by
  refine ⟨fun h1 => ?_, fun h1 => ?_⟩
  · have := h (2 * i + 1) (by omega) h1
    rwa [show (2 * i + 1 - 1) / 2 = i by omega] at this
  · have := h (2 * i + 2) (by omega) h1
    rwa [show (2 * i + 2 - 1) / 2 = i by omega] at this
theorem rightR_l1 (l : List It) (i k : Nat) (hi : i < l.length) (hl : l.length ≤ 1000000) : stolonref12_Right.l1 (k + 1 + 1 + 1) l i ((2 * i + 1 : Nat) : Int) =
    if (2 * i + 1 < l.length ∧ lt (at' l (2 * i + 1)) (at' l i)) ∨ (2 * i + 2 < l.length ∧ lt (at' l (2 * i + 2)) (at' l i)) then some false else stolonref12_Right.l0 k l ((i + 1 : Nat) : Int) := by
  have e0 : wrap64 (2 * (i : Int)) = ((2 * i : Nat) : Int) := by rw [w64 (by omega)]; omega
  have e1 : wrap64 (((2 * i : Nat) : Int) + 2) = ((2 * i + 2 : Nat) : Int) := by rw [w64 (by omega)]; omega
  have e2 : wrap64 (((2 * i + 1 : Nat) : Int) + 1) = ((2 * i + 2 : Nat) : Int) := by rw [w64 (by omega)]; omega
  have e3 : wrap64 (((2 * i + 2 : Nat) : Int) + 1) = ((2 * i + 3 : Nat) : Int) := by rw [w64 (by omega)]; omega
  have e4 : wrap64 ((i : Int) + 1) = ((i + 1 : Nat) : Int) := by rw [w64 (by omega)]; omega
  have last : stolonref12_Right.l1 (k + 1) l i ((2 * i + 3 : Nat) : Int) = stolonref12_Right.l0 k l ((i + 1 : Nat) : Int) := by
    rw [stolonref12_Right.l1, e0, e1, if_neg (by omega), e4]
  have two : stolonref12_Right.l1 (k + 1 + 1) l i ((2 * i + 2 : Nat) : Int) = if 2 * i + 2 < l.length ∧ lt (at' l (2 * i + 2)) (at' l i) then some false else stolonref12_Right.l0 k l ((i + 1 : Nat) : Int) := by
    rw [stolonref12_Right.l1, e0, e1, if_pos (by omega)]
    by_cases h : 2 * i + 2 < l.length
    · rw [if_pos (by omega), if_pos (by omega), if_pos (by omega), if_pos (by omega), less_ref, rd_nat, rd_nat]
      simp only [Option.bind_some, decide_eq_true_eq]
      by_cases h2 : lt (at' l (2 * i + 2)) (at' l i)
      · rw [if_pos h2, if_pos ⟨h, h2⟩]
      · rw [if_neg h2, if_neg (fun h3 => h2 h3.2), e3, last]
    · rw [if_neg (by omega), if_neg (fun h3 => h h3.1), e3, last]
  rw [stolonref12_Right.l1, e0, e1, if_pos (by omega)]
  by_cases h : 2 * i + 1 < l.length
  · rw [if_pos (by omega), if_pos (by omega), if_pos (by omega), if_pos (by omega), less_ref, rd_nat, rd_nat]
    simp only [Option.bind_some, decide_eq_true_eq]
    by_cases h2 : lt (at' l (2 * i + 1)) (at' l i)
    · rw [if_pos h2, if_pos (.inl ⟨h, h2⟩)]
    · rw [if_neg h2, e2, two]
      by_cases h3 : 2 * i + 2 < l.length ∧ lt (at' l (2 * i + 2)) (at' l i)
      · rw [if_pos h3, if_pos (.inr h3)]
      · rw [if_neg h3, if_neg (fun h4 => h4.elim (fun h5 => h2 h5.2) h3)]
  · rw [if_neg (by omega), e2, two]
    by_cases h3 : 2 * i + 2 < l.length ∧ lt (at' l (2 * i + 2)) (at' l i)
    · omega
    · rw [if_neg h3, if_neg (fun h4 => h4.elim (fun h5 => h h5.1) h3)]
theorem rightR_loop (l : List It) (hl : l.length ≤ 1000000) : ∀ (t k i : Nat), l.length - i = t → i ≤ l.length → 4 * t + 6 ≤ k →
    (∀ j, j < i → (2 * j + 1 < l.length → ¬ lt (at' l (2 * j + 1)) (at' l j)) ∧ (2 * j + 2 < l.length → ¬ lt (at' l (2 * j + 2)) (at' l j))) → stolonref12_Right.l0 k l i = some (decide (Heap l)) := by
  intro t
  induction t with
  | zero =>
    intro k i ht hi hk h
    obtain ⟨k, rfl⟩ : ∃ j, k = j + 1 := ⟨k - 1, by omega⟩
    rw [stolonref12_Right.l0, if_neg (by omega)]
    exact congrArg some (decide_eq_true (heap_of_below fun j hj => h j (by omega))).symm
  | succ t ih =>
    intro k i ht hi hk h
    obtain ⟨k, rfl⟩ : ∃ j, k = j + 1 + 1 + 1 + 1 := ⟨k - 4, by omega⟩
    have e0 : wrap64 (2 * (i : Int)) = ((2 * i : Nat) : Int) := by rw [w64 (by omega)]; omega
    have e1 : wrap64 (((2 * i : Nat) : Int) + 1) = ((2 * i + 1 : Nat) : Int) := by rw [w64 (by omega)]; omega
    rw [stolonref12_Right.l0, if_pos (by omega), e0, e1, rightR_l1 l i k (by omega) hl]
    by_cases hc : (2 * i + 1 < l.length ∧ lt (at' l (2 * i + 1)) (at' l i)) ∨ (2 * i + 2 < l.length ∧ lt (at' l (2 * i + 2)) (at' l i))
    · rw [if_pos hc]
      refine congrArg some (decide_eq_false (fun hh => ?_)).symm
      have := below_of_heap hh i
      rcases hc with hc | hc
      · exact this.1 hc.1 hc.2
      · exact this.2 hc.1 hc.2
    · rw [if_neg hc]
      refine ih k (i + 1) (by omega) (by omega) (by omega) (fun j hj => ?_)
      by_cases ej : j = i
      · subst ej
        exact ⟨fun h1 h2 => hc (.inl ⟨h1, h2⟩), fun h1 h2 => hc (.inr ⟨h1, h2⟩)⟩
      · exact h j (by omega)
theorem rightR_ok (l : List It) (k : Nat) (hl : l.length ≤ 1000000) (hk : 4 * l.length + 6 ≤ k) : stolonref12_Right.f k l = some (decide (Heap l)) := by
  unfold stolonref12_Right.f
  exact rightR_loop l hl l.length k 0 (by omega) (by omega) hk (fun j hj => by omega)

/-! ### the reference's own -/
theorem swp_of_at {l : List It} {i p : Nat} {x : It} (hx : at' l i = x) : (l.set i (at' l p)).set p x = swp l i p := by unfold swp; rw [hx]
theorem pushR_loop (x : It) (i : Nat) : ∀ (l : List It) (k : Nat), i < l.length → l.length ≤ 1000000 → at' l i = x → i + 3 ≤ k → stolonref12_Push.l0 k l (i : Int) x.f0 x.f1 = some (riseL l i) := by
  induction i using Nat.strongRecOn with
  | _ i ih =>
    intro l k hi hl hx hk
    obtain ⟨k, rfl⟩ : ∃ j, k = j + 1 := ⟨k - 1, by omega⟩
    rw [stolonref12_Push.l0, riseL]
    by_cases h0 : 0 < i
    · have e1 : wrap64 (Int.tdiv (wrap64 ((i : Int) - 1)) 2) = (((i - 1) / 2 : Nat) : Int) := by
        rw [w64 (x := (i : Int) - 1) (by omega), Int.tdiv_eq_ediv_of_nonneg (by omega), w64 (by omega)]
        omega
      rw [if_pos (by omega), e1, if_pos (by omega), if_pos (by omega), less_ref, rd_nat]
      simp only [Option.bind_some, decide_eq_true_eq]
      by_cases hlt : lt x (at' l ((i - 1) / 2))
      · rw [if_pos hlt, if_pos (by omega), if_pos (by omega), if_pos ⟨h0, by rw [hx]; exact hlt⟩]
        have hs : (l.set i (at' l ((i - 1) / 2))).set ((i - 1) / 2) x = swp l i ((i - 1) / 2) := swp_of_at hx
        have := ih ((i - 1) / 2) (by omega) (swp l i ((i - 1) / 2)) k (by rw [swp_length]; omega) (by rw [swp_length]; omega) (by rw [at_swp _ _ _ _ hi (by omega), if_pos rfl, hx]) (by omega)
        rw [← hs] at this
        rw [hs] at this
        rw [← this, ← hs]
        rfl
      · rw [if_neg hlt, if_neg (fun h => hlt (by rw [hx] at h; exact h.2))]
    · rw [if_neg (by omega), if_neg (fun h => h0 h.1)]
theorem pushR_ok (l : List It) (x : It) (k : Nat) (hl : l.length ≤ 100000) (hk : l.length + 3 ≤ k) : stolonref12_Push.f k l x.f0 x.f1 = some (pushL l x) := by
  unfold stolonref12_Push.f
  simp only [Option.bind_some, List.length_nil, List.nil_append]
  rw [if_pos (by omega), if_pos (by omega)]
  exact pushR_loop x l.length (l ++ [x]) k (by simp) (by simp; omega) (at_append_last l x) hk
theorem makeR_loop (l : List It) (hl : l.length ≤ 100000) : ∀ (t k i : Nat) (o : List It), l.length - i = t → i ≤ l.length → o.length = i → t + l.length + 5 ≤ k → stolonref12_Make.l0 k l o i = some ((l.drop i).foldl pushL o) := by
  intro t
  induction t with
  | zero =>
    intro k i o ht hi ho hk
    obtain ⟨k, rfl⟩ : ∃ j, k = j + 1 := ⟨k - 1, by omega⟩
    rw [stolonref12_Make.l0, if_neg (by omega), List.drop_of_length_le (by omega)]
    rfl
  | succ t ih =>
    intro k i o ht hi ho hk
    obtain ⟨k, rfl⟩ : ∃ j, k = j + 1 := ⟨k - 1, by omega⟩
    have hlt : i < l.length := by omega
    rw [stolonref12_Make.l0, if_pos (by omega), if_pos (by omega), pushR_ok o _ k (by omega) (by omega), rd_nat]
    simp only [Option.bind_some]
    rw [w64 (by omega), show (i : Int) + 1 = ((i + 1 : Nat) : Int) from by omega, ih k (i + 1) _ (by omega) (by omega) (by rw [pushL_length, ho]) (by omega), List.drop_eq_getElem_cons hlt, List.foldl_cons, at_eq l i hlt]
theorem makeR_ok (l : List It) (k : Nat) (hl : l.length ≤ 100000) (hk : 2 * l.length + 5 ≤ k) : stolonref12_Make.f k l = some (makeL l) := by
  unfold stolonref12_Make.f makeL
  have := makeR_loop l hl l.length k 0 [] (by omega) (by omega) rfl (by omega)
  simpa using this
/-- The lesser one below a place, as the reference finds it. -/
def lesser (l : List It) (i : Nat) : Nat := if 2 * i + 2 < l.length ∧ lt (at' l (2 * i + 2)) (at' l (2 * i + 1)) then 2 * i + 2 else 2 * i + 1
theorem least_lesser (l : List It) (i : Nat) (h : 2 * i + 1 < l.length) : least l i = if lt (at' l (lesser l i)) (at' l i) then lesser l i else i := by
  unfold least child1 lesser
  by_cases h1 : lt (at' l (2 * i + 1)) (at' l i)
  · rw [if_pos (show 2 * i + 1 < l.length ∧ lt (at' l (2 * i + 1)) (at' l i) from ⟨h, h1⟩)]
    by_cases h2 : 2 * i + 2 < l.length ∧ lt (at' l (2 * i + 2)) (at' l (2 * i + 1))
    · simp only [if_pos h2]
      rw [if_pos (lt_trans h2.2 h1)]
    · simp only [if_neg h2]
      rw [if_pos h1]
  · rw [if_neg (show ¬ (2 * i + 1 < l.length ∧ lt (at' l (2 * i + 1)) (at' l i)) from fun h3 => h1 h3.2)]
    by_cases h2 : 2 * i + 2 < l.length ∧ lt (at' l (2 * i + 2)) (at' l (2 * i + 1))
    · simp only [if_pos h2]
      by_cases h4 : lt (at' l (2 * i + 2)) (at' l i)
      · rw [if_pos h4, if_pos ⟨h2.1, h4⟩]
      · rw [if_neg h4, if_neg (fun h5 => h4 h5.2)]
    · simp only [if_neg h2]
      rw [if_neg h1, if_neg]
      intro h4
      have h5 : ¬ lt (at' l (2 * i + 2)) (at' l (2 * i + 1)) := fun h6 => h2 ⟨h4.1, h6⟩
      exact le_trans' h1 h5 h4.2
theorem popR_step (l0 l : List It) (x : It) (i b k : Nat) (f : Bool) (hb : b = if f = true then 2 * i + 2 else 2 * i + 1) (hi : i < l.length) (hbl : b < l.length) (hl : l.length ≤ 1000000) (h0 : 0 < l0.length) :
    stolonref12_Pop.j1 (k + 1) l0 (l.length : Int) l i ((2 * i + 1 : Nat) : Int) f x.f0 x.f1 = if lt (at' l b) x then stolonref12_Pop.l0 k l0 (l.length : Int) ((l.set i (at' l b)).set b x) b x.f0 x.f1 else some (l, (at' l0 0).f0, (at' l0 0).f1, true) := by
  have e1 : wrap64 (((2 * i + 1 : Nat) : Int) + 1) = ((2 * i + 2 : Nat) : Int) := by rw [w64 (by omega)]; omega
  rw [stolonref12_Pop.j1]
  cases f with
  | true =>
    rw [if_pos rfl] at hb
    subst hb
    rw [if_pos rfl, e1, if_pos (by omega), if_pos (by omega), less_ref, rd_nat]
    simp only [Option.bind_some, decide_eq_true_eq]
    by_cases h : lt (at' l (2 * i + 2)) x
    · rw [if_pos h, if_pos h, if_pos (by omega), if_pos (by omega)]
      rfl
    · rw [if_neg h, if_neg h, if_pos (by omega)]
      rfl
  | false =>
    rw [if_neg (by simp)] at hb
    subst hb
    rw [if_neg (by simp), if_pos (by omega), if_pos (by omega), less_ref, rd_nat]
    simp only [Option.bind_some, decide_eq_true_eq]
    by_cases h : lt (at' l (2 * i + 1)) x
    · rw [if_pos h, if_pos h, if_pos (by omega), if_pos (by omega)]
      rfl
    · rw [if_neg h, if_neg h, if_pos (by omega)]
      rfl
theorem popR_loop (l0 : List It) (x : It) (h0 : 0 < l0.length) (d : Nat) : ∀ (l : List It) (i k : Nat), l.length - i ≤ d → i < l.length → l.length ≤ 1000000 → at' l i = x → 2 * d + 4 ≤ k →
    stolonref12_Pop.l0 k l0 (l.length : Int) l (i : Int) x.f0 x.f1 = some (sinkL l i, (at' l0 0).f0, (at' l0 0).f1, true) := by
  induction d with
  | zero => intro l i k h1 h2; omega
  | succ d ih =>
    intro l i k hd hi hl hx hk
    obtain ⟨k, rfl⟩ : ∃ j, k = j + 1 + 1 := ⟨k - 2, by omega⟩
    have e1 : wrap64 (wrap64 (2 * (i : Int)) + 1) = ((2 * i + 1 : Nat) : Int) := by rw [w64 (x := 2 * (i : Int)) (by omega), w64 (by omega)]; omega
    have e2 : wrap64 (((2 * i + 1 : Nat) : Int) + 1) = ((2 * i + 2 : Nat) : Int) := by rw [w64 (by omega)]; omega
    rw [stolonref12_Pop.l0, e1, e2]
    have fin : ∀ f : Bool, lesser l i = (if f = true then 2 * i + 2 else 2 * i + 1) → 2 * i + 1 < l.length → lesser l i < l.length →
        stolonref12_Pop.j1 (k + 1) l0 (l.length : Int) l i ((2 * i + 1 : Nat) : Int) f x.f0 x.f1 = some (sinkL l i, (at' l0 0).f0, (at' l0 0).f1, true) := by
      intro f hf h1 h2
      rw [popR_step l0 l x i (lesser l i) k f hf hi h2 hl h0, sinkL, least_lesser l i h1, hx]
      by_cases h : lt (at' l (lesser l i)) x
      · have hne : ¬ lesser l i = i := by
          rw [hf]
          split <;> omega
        rw [if_pos h, if_pos h, if_neg hne, swp_of_at hx]
        have hs := swp_length l i (lesser l i)
        have hgt : i < lesser l i := by
          rw [hf]
          split <;> omega
        have := ih (swp l i (lesser l i)) (lesser l i) k (by rw [hs]; omega) (by rw [hs]; exact h2) (by rw [hs]; exact hl) (by rw [at_swp _ _ _ _ hi h2, if_pos rfl, hx]) (by omega)
        rw [hs] at this
        exact this
      · rw [if_neg h, if_neg h, if_pos rfl]
    by_cases h1 : 2 * i + 1 < l.length
    · rw [if_pos (by omega)]
      by_cases h2 : 2 * i + 2 < l.length
      · rw [if_pos (by omega), if_pos (by omega), if_pos (by omega), if_pos (by omega), if_pos (by omega), less_ref, rd_nat, rd_nat]
        simp only [Option.bind_some]
        refine fin _ ?_ h1 ?_
        · unfold lesser
          by_cases h3 : lt (at' l (2 * i + 2)) (at' l (2 * i + 1))
          · rw [if_pos ⟨h2, h3⟩, if_pos (decide_eq_true h3)]
          · rw [if_neg (fun h4 => h3 h4.2), if_neg (by simpa using h3)]
        · unfold lesser
          split <;> omega
      · rw [if_neg (by omega)]
        refine fin false ?_ h1 ?_
        · unfold lesser
          rw [if_neg (fun h3 => h2 h3.1), if_neg (by simp)]
        · unfold lesser
          split <;> omega
    · rw [if_neg (by omega), if_pos (by omega), sinkL, if_pos]
      · rfl
      · unfold least child1
        rw [if_neg (show ¬(2 * i + 1 < l.length ∧ lt (at' l (2 * i + 1)) (at' l i)) from fun h3 => h1 h3.1)]
        exact if_neg (fun h3 => by omega)
theorem popR_nil (k : Nat) : stolonref12_Pop.f k [] = some ([], 0, 0, false) := by
  unfold stolonref12_Pop.f
  exact if_pos (show ((([] : List It).length : Nat) : Int) = 0 from rfl)
theorem popR_ok (l : List It) (k : Nat) (h0 : 0 < l.length) (hl : l.length ≤ 100000) (hk : 2 * l.length + 8 ≤ k) : stolonref12_Pop.f k l = some (popL l, (at' l 0).f0, (at' l 0).f1, true) := by
  unfold stolonref12_Pop.f
  have e : wrap64 ((l.length : Int) - 1) = ((l.length - 1 : Nat) : Int) := by rw [w64 (by omega)]; omega
  rw [if_neg (by omega)]
  simp only [Option.bind_some, List.length_nil, List.nil_append]
  rw [e, if_pos (by omega), if_pos (by omega), Int.toNat_natCast, if_pos (by simp; omega)]
  by_cases h1 : l.length = 1
  · rw [if_pos (by omega), if_pos (by omega)]
    have : popL l = l.take (l.length - 1) := by
      unfold popL
      rw [h1, show 1 - 1 = 0 from rfl, List.take_zero, List.take_zero, sinkL, if_pos (show least [] 0 = 0 by rfl)]
    rw [this]
    rfl
  · rw [if_neg (by omega), if_pos (by omega), if_pos (by simp; omega)]
    have hs : ((l.take (l.length - 1)).set 0 (at' l (l.length - 1))) = (l.set 0 (at' l (l.length - 1))).take (l.length - 1) := by rw [List.take_set]
    have hlen : ((l.set 0 (at' l (l.length - 1))).take (l.length - 1)).length = l.length - 1 := by simp
    have := popR_loop l (at' l (l.length - 1)) h0 (l.length - 1) ((l.set 0 (at' l (l.length - 1))).take (l.length - 1)) 0 k (by rw [hlen]; omega) (by rw [hlen]; omega) (by rw [hlen]; omega)
      (by rw [at_take _ _ _ (by omega), at_set _ _ _ _ h0, if_pos rfl]) (by omega)
    rw [hlen, ← hs] at this
    rw [show popL l = sinkL ((l.take (l.length - 1)).set 0 (at' l (l.length - 1))) 0 from by rw [hs]; rfl]
    exact this
/-- An item laid into a row in order. -/
def insL (x : It) : List It → List It
  | [] => [x]
  | a :: l => if lt x a then x :: a :: l else a :: insL x l
theorem insL_perm (x : It) (l : List It) : (insL x l).Perm (x :: l) := by
  induction l with
  | nil => exact .rfl
  | cons a l ih =>
    unfold insL
    split
    · exact .rfl
    · exact (List.Perm.cons a ih).trans (List.Perm.swap x a l)
theorem insL_sorted (x : It) (l : List It) (h : Sorted l) : Sorted (insL x l) := by
  induction l with
  | nil => exact List.pairwise_singleton _ _
  | cons a l ih =>
    obtain ⟨ha, hl⟩ := List.pairwise_cons.1 h
    unfold insL
    split
    · rename_i hlt
      refine List.pairwise_cons.2 ⟨fun b hb => ?_, h⟩
      rcases List.mem_cons.1 hb with rfl | hb
      · exact lt_asymm hlt
      · exact le_trans' (lt_asymm hlt) (ha b hb)
    · rename_i hlt
      refine List.pairwise_cons.2 ⟨fun b hb => ?_, ih hl⟩
      rcases List.mem_cons.1 ((insL_perm x l).mem_iff.1 hb) with rfl | hb
      · exact hlt
      · exact ha b hb
theorem insL_length (x : It) (l : List It) : (insL x l).length = l.length + 1 := (insL_perm x l).length_eq
/-- From a place on: the row that comes of it, after some rounds. -/
theorem sortR_step (l o : List It) (i : Nat) (hi : i < l.length) (hl : l.length ≤ 100000) (ho : o.length ≤ 100000) : ∀ (t p k : Nat), o.length - p = t → p ≤ o.length → t + 1 ≤ k → ∃ k', k - (t + 1) ≤ k' ∧
    stolonref12_Sort.l1 k l o (i : Int) (o.take p) (p : Int) = stolonref12_Sort.l0 k' l (o.take p ++ insL (at' l i) (o.drop p)) ((i + 1 : Nat) : Int) := by
  intro t
  induction t with
  | zero =>
    intro p k ht hp hk
    obtain ⟨k, rfl⟩ : ∃ j, k = j + 1 := ⟨k - 1, by omega⟩
    have e : wrap64 ((i : Int) + 1) = ((i + 1 : Nat) : Int) := by rw [w64 (by omega)]; omega
    refine ⟨k, by omega, ?_⟩
    rw [stolonref12_Sort.l1, if_neg (by omega), if_pos (by omega), if_pos (by omega), if_pos (by simp; omega)]
    simp only [Option.bind_some]
    rw [if_pos (by omega), if_pos (by omega), Int.toNat_natCast]
    rw [if_pos (by simp; omega), e, List.drop_of_length_le (by omega)]
    rw [List.append_nil]
    rfl
  | succ t ih =>
    intro p k ht hp hk
    obtain ⟨k, rfl⟩ : ∃ j, k = j + 1 := ⟨k - 1, by omega⟩
    have e : wrap64 ((i : Int) + 1) = ((i + 1 : Nat) : Int) := by rw [w64 (by omega)]; omega
    have e2 : wrap64 ((p : Int) + 1) = ((p + 1 : Nat) : Int) := by rw [w64 (by omega)]; omega
    have hlt : p < o.length := by omega
    have hd := List.drop_eq_getElem_cons hlt
    rw [stolonref12_Sort.l1, if_pos (by omega), if_pos (by omega), if_pos (by omega), if_pos (by omega), less_ref, rd_nat, rd_nat]
    simp only [Option.bind_some, decide_eq_true_eq]
    by_cases h : lt (at' l i) (at' o p)
    · refine ⟨k, by omega, ?_⟩
      rw [if_pos h, if_pos (by simp; omega), if_pos (by omega), Int.toNat_natCast, if_pos (by simp; omega), e, hd, insL, if_pos (by rw [← at_eq o p hlt]; exact h)]
      simp only [List.append_assoc, List.cons_append, List.nil_append]
    · obtain ⟨k', hk', h2⟩ := ih (p + 1) k (by omega) (by omega) (by omega)
      refine ⟨k', by omega, ?_⟩
      rw [if_neg h, if_pos (by simp; omega), e2]
      rw [hd, insL, if_neg (by rw [← at_eq o p hlt]; exact h)]
      rw [List.take_succ_eq_append_getElem hlt] at h2
      rw [List.append_assoc] at h2
      have h3 : stolonref12_Sort.l1 k l o (i : Int) (List.take p o ++ [⟨(at' o p).f0, (at' o p).f1⟩]) ((p + 1 : Nat) : Int) = stolonref12_Sort.l1 k l o (i : Int) (List.take p o ++ [o[p]]) ((p + 1 : Nat) : Int) := by
        rw [← at_eq o p hlt]
      exact h3.trans h2
theorem sortR_loop (l : List It) (hl : l.length ≤ 100000) : ∀ (t i k : Nat) (o : List It), l.length - i = t → i ≤ l.length → o.length = i → t * (l.length + 3) + 2 ≤ k → ∃ r, stolonref12_Sort.l0 k l o (i : Int) = some r ∧ r.Perm (o ++ l.drop i) ∧ (Sorted o → Sorted r) := by
  intro t
  induction t with
  | zero =>
    intro i k o ht hi ho hk
    obtain ⟨k, rfl⟩ : ∃ j, k = j + 1 := ⟨k - 1, by omega⟩
    refine ⟨o, by rw [stolonref12_Sort.l0, if_neg (by omega)], ?_, fun h => h⟩
    rw [List.drop_of_length_le (by omega), List.append_nil]
  | succ t ih =>
    intro i k o ht hi ho hk
    rw [Nat.succ_mul] at hk
    obtain ⟨k, rfl⟩ : ∃ j, k = j + 1 := ⟨k - 1, by omega⟩
    have hlt : i < l.length := by omega
    obtain ⟨k', hk', h2⟩ := sortR_step l o i hlt hl (by omega) o.length 0 k (by omega) (by omega) (by omega)
    rw [stolonref12_Sort.l0, if_pos (by omega)]
    rw [List.take_zero, List.drop_zero, List.nil_append] at h2
    rw [show (0 : Int) = ((0 : Nat) : Int) from rfl, h2]
    obtain ⟨r, h3, h4, h5⟩ := ih (i + 1) k' (insL (at' l i) o) (by omega) (by omega) (by rw [insL_length, ho]) (by omega)
    refine ⟨r, h3, h4.trans ?_, fun h => h5 (insL_sorted _ _ h)⟩
    rw [List.drop_eq_getElem_cons hlt, ← at_eq l i hlt]
    exact ((insL_perm _ _).append_right _).trans (by simpa using (List.perm_middle (a := at' l i) (l₁ := o) (l₂ := l.drop (i + 1))).symm)
theorem sortR_ok (l : List It) (k : Nat) (hl : l.length ≤ 100000) (hk : l.length * (l.length + 3) + 2 ≤ k) : stolonref12_Sort.f k l = some (sortL l) := by
  unfold stolonref12_Sort.f
  obtain ⟨r, h1, h2, h3⟩ := sortR_loop l hl l.length 0 k [] (by omega) (by omega) rfl hk
  rw [show (0 : Int) = ((0 : Nat) : Int) from rfl, h1]
  refine congrArg some (sorted_unique (h3 List.Pairwise.nil) (sortL_sorted l) (h2.trans ?_))
  simpa using (sortL_perm l).symm
theorem same_loop (l : List It) (hl : l.length ≤ 100000) : ∀ (t k i : Nat), l.length - i = t → i ≤ l.length → t + 2 ≤ k → stolonref12_Same.l0 k l l (i : Int) = some true := by
  intro t
  induction t with
  | zero =>
    intro k i ht hi hk
    obtain ⟨k, rfl⟩ : ∃ j, k = j + 1 := ⟨k - 1, by omega⟩
    rw [stolonref12_Same.l0, if_neg (by omega)]
  | succ t ih =>
    intro k i ht hi hk
    obtain ⟨k, rfl⟩ : ∃ j, k = j + 1 := ⟨k - 1, by omega⟩
    have e2 : wrap64 ((i : Int) + 1) = ((i + 1 : Nat) : Int) := by rw [w64 (by omega)]; omega
    rw [stolonref12_Same.l0, if_pos (by omega), if_pos (by omega), if_pos (by omega), if_neg (by simp), e2]
    exact ih k (i + 1) (by omega) (by omega) (by omega)
theorem same_ok (l : List It) (k : Nat) (hl : l.length ≤ 100000) (hk : l.length + 2 ≤ k) : stolonref12_Same.f k l l = some true := by
  unfold stolonref12_Same.f
  rw [if_pos rfl]
  exact same_loop l hl l.length k 0 (by omega) (by omega) hk
theorem many_loop (l : List It) (x : It) (hl : l.length ≤ 100000) : ∀ (t k i n : Nat), l.length - i = t → i ≤ l.length → n ≤ i → t + 2 ≤ k → stolonlaw12_many.l0 k l (n : Int) (i : Int) x.f0 x.f1 = some (((n + (l.drop i).count x : Nat) : Int)) := by
  intro t
  induction t with
  | zero =>
    intro k i n ht hi hn hk
    obtain ⟨k, rfl⟩ : ∃ j, k = j + 1 := ⟨k - 1, by omega⟩
    rw [stolonlaw12_many.l0, if_neg (by omega), List.drop_of_length_le (by omega)]
    simp
  | succ t ih =>
    intro k i n ht hi hn hk
    obtain ⟨k, rfl⟩ : ∃ j, k = j + 1 := ⟨k - 1, by omega⟩
    have e2 : wrap64 ((i : Int) + 1) = ((i + 1 : Nat) : Int) := by rw [w64 (by omega)]; omega
    have e3 : wrap64 ((n : Int) + 1) = ((n + 1 : Nat) : Int) := by rw [w64 (by omega)]; omega
    have hlt : i < l.length := by omega
    rw [stolonlaw12_many.l0, if_pos (by omega), if_pos (by omega), rd_nat, e2, e3, List.drop_eq_getElem_cons hlt, ← at_eq l i hlt, List.count_cons]
    by_cases h : at' l i = x
    · rw [if_pos (by rw [h]; simp), ih k (i + 1) (n + 1) (by omega) (by omega) (by omega) (by omega), if_pos (by simpa using h)]
      exact congrArg some (by omega)
    · rw [if_neg (fun h2 => h (by simp only [Bool.and_eq_true, beq_iff_eq] at h2; exact it_ext h2.1 h2.2)), ih k (i + 1) n (by omega) (by omega) (by omega) (by omega), if_neg (by simpa using h)]
      exact congrArg some (by omega)
theorem many_ok (l : List It) (x : It) (k : Nat) (hl : l.length ≤ 100000) (hk : l.length + 2 ≤ k) : stolonlaw12_many.f k l x.f0 x.f1 = some ((l.count x : Nat) : Int) := by
  unfold stolonlaw12_many.f
  have := many_loop l x hl l.length k 0 0 (by omega) (by omega) (by omega) hk
  simpa using this
theorem shown_30 : stolonlaw12_shown.f 30 = some true := by decide +kernel
theorem shown_ok (k : Nat) (hk : 30 ≤ k) : stolonlaw12_shown.f k = some true := at_rounds stolonlaw12_shown.mono hk shown_30
end Go.Proofs.Ytlihbdinghoeeab.P
