/- SptSame over numbers and lists. -/
import Derived.Test.YtkcphjdjhlikhaaStSptSame
import Derived.Test.YtkcphjdjhlikhaaSpShown
import Derived.Test.YtkcphjdjhlikhaaPx16
import Derived.Test.YtkcphjdjhlikhaaPx17
namespace Go.Proofs.Ytkcphjdjhlikhaa.Pure
set_option linter.unusedVariables false
set_option linter.unusedSimpArgs false
open Go.RowKit Go.Proofs.Ytkcphjdjhlikhaa.P Go.Proofs.YtkcphjdjhlikhaaW.PrintWords Go.Proofs.YtkcphjdjhlikhaaW.PrintLast Go.Proofs.YtkcphjdjhlikhaaW.PrintMore
theorem rdx (l : List Int) (k : Nat) (hk : k < l.length) : rd l (k : Int) = l[k]'hk := by
  unfold rd
  rw [Int.toNat_natCast, List.getD_eq_getElem?_getD, List.getElem?_eq_getElem hk]
  rfl
theorem w64x {x : Int} (h : -9223372036854775808 ≤ x ∧ x ≤ 9223372036854775807) : wrap64 x = x := by unfold wrap64; omega
theorem ints_l (a b : List Int) (hl : a.length ≤ 100000) (he : a.length = b.length) : ∀ (d i k : Nat), i + d = a.length → d < k → stolonref09_Ints.l0 k a b (i : Int) = some (decide (a.drop i = b.drop i)) := by
  intro d
  induction d with
  | zero =>
    intro i k hi hk
    obtain ⟨k, rfl⟩ : ∃ k', k = k' + 1 := ⟨k - 1, by omega⟩
    rw [stolonref09_Ints.l0, if_neg (by omega), List.drop_of_length_le (by omega), List.drop_of_length_le (by omega)]
    simp
  | succ d ih =>
    intro i k hi hk
    obtain ⟨k, rfl⟩ : ∃ k', k = k' + 1 := ⟨k - 1, by omega⟩
    have hlt : i < a.length := by omega
    rw [stolonref09_Ints.l0, if_pos (by omega), if_pos (by omega), if_pos (by omega), w64x (x := (i : Int) + 1) (by omega), show (i : Int) + 1 = ((i + 1 : Nat) : Int) from rfl, ih (i + 1) k (by omega) (by omega), rdx a i hlt, rdx b i (by omega), List.drop_eq_getElem_cons hlt, List.drop_eq_getElem_cons (by omega : i < b.length)]
    by_cases h : a[i] = b[i]'(by omega)
    · rw [if_pos h]
      refine congrArg some (decide_eq_decide.2 ?_)
      rw [h]
      exact ⟨fun e => by rw [e], fun e => (List.cons.inj e).2⟩
    · rw [if_neg h]
      exact congrArg some (decide_eq_false (fun e => h (List.cons.inj e).1)).symm
theorem ints_ok (a b : List Int) (k : Nat) (hl : a.length ≤ 100000) (hk : a.length < k) : stolonref09_Ints.f k a b = some (decide (a = b)) := by
  unfold stolonref09_Ints.f
  by_cases h : (a.length : Int) = (b.length : Int)
  · rw [if_pos h]
    have := ints_l a b hl (by omega) a.length 0 k (by omega) hk
    rwa [List.drop_zero, List.drop_zero] at this
  · rw [if_neg h]
    exact congrArg some (decide_eq_false (fun e => h (by rw [e]))).symm
theorem eqi_l (a b : List Int) (hl : a.length ≤ 100000) (he : a.length = b.length) : ∀ (d i k : Nat), i + d = a.length → d < k → slices_Equal_int_int.l0 k a b (a.length : Int) (i : Int) = some (decide (a.drop i = b.drop i)) := by
  intro d
  induction d with
  | zero =>
    intro i k hi hk
    obtain ⟨k, rfl⟩ : ∃ k', k = k' + 1 := ⟨k - 1, by omega⟩
    rw [slices_Equal_int_int.l0, if_neg (by omega), List.drop_of_length_le (by omega), List.drop_of_length_le (by omega)]
    simp
  | succ d ih =>
    intro i k hi hk
    obtain ⟨k, rfl⟩ : ∃ k', k = k' + 1 := ⟨k - 1, by omega⟩
    have hlt : i < a.length := by omega
    rw [slices_Equal_int_int.l0, if_pos (by omega), if_pos (by omega), if_pos (by omega), if_pos (by omega), w64x (x := (i : Int) + 1) (by omega), show (i : Int) + 1 = ((i + 1 : Nat) : Int) from rfl, ih (i + 1) k (by omega) (by omega), rdx a i hlt, rdx b i (by omega), List.drop_eq_getElem_cons hlt, List.drop_eq_getElem_cons (by omega : i < b.length)]
    by_cases h : a[i] = b[i]'(by omega)
    · rw [if_pos h]
      refine congrArg some (decide_eq_decide.2 ?_)
      rw [h]
      exact ⟨fun e => by rw [e], fun e => (List.cons.inj e).2⟩
    · rw [if_neg h]
      exact congrArg some (decide_eq_false (fun e => h (List.cons.inj e).1)).symm
theorem eqi_ok (a b : List Int) (k : Nat) (hl : a.length ≤ 100000) (hk : a.length < k) : slices_Equal_int_int.f k a b = some (decide (a = b)) := by
  unfold slices_Equal_int_int.f
  by_cases h : (a.length : Int) = (b.length : Int)
  · rw [if_pos h]
    have := eqi_l a b hl (by omega) a.length 0 k (by omega) hk
    rwa [List.drop_zero, List.drop_zero] at this
  · rw [if_neg h]
    exact congrArg some (decide_eq_false (fun e => h (by rw [e]))).symm
theorem same_ok (a b c d : List Int) (k : Nat) (h1 : a.length ≤ 200) (h2 : b.length ≤ 200) (hk : 200 < k) : spt_Same.f k a b c d = some (decide (a = c) && decide (b = d)) := by
  unfold spt_Same.f
  rw [eqi_ok a c k (by omega) (by omega), Option.bind_some]
  by_cases h : a = c
  · rw [decide_eq_true h, if_pos rfl, eqi_ok b d k (by omega) (by omega), Option.bind_some, Bool.true_and]
  · rw [decide_eq_false h, if_neg (by decide), Bool.false_and]
theorem rsame_ok (a b c d : List Int) (k : Nat) (h1 : a.length ≤ 200) (h2 : b.length ≤ 200) (hk : 200 < k) : stolonref13_Same.f k a b c d = some (decide (a = c) && decide (b = d)) := by
  unfold stolonref13_Same.f
  rw [ints_ok a c k (by omega) (by omega), Option.bind_some]
  by_cases h : a = c
  · rw [decide_eq_true h, if_pos rfl, ints_ok b d k (by omega) (by omega), Option.bind_some, Bool.true_and]
  · rw [decide_eq_false h, if_neg (by decide), Bool.false_and]
theorem SptSame : stolonlaw13_SptSame.Pure := by
  intro x0 x1 h0 h1
  refine ⟨300, ?_⟩
  have l1 := h0.1.1
  have l2 := h0.2.1
  have l3 := h1.1.1
  have l4 := h1.2.1
  unfold stolonlaw13_SptSame.f
  have hw : wrap64 (wrap64 (wrap64 ((x0.f0.length : Int) + (x0.f1.length : Int)) + (x1.f0.length : Int)) + (x1.f1.length : Int)) = (x0.f0.length : Int) + (x0.f1.length : Int) + (x1.f0.length : Int) + (x1.f1.length : Int) := by
    rw [w64x (x := (x0.f0.length : Int) + (x0.f1.length : Int)) (by omega), w64x (x := (x0.f0.length : Int) + (x0.f1.length : Int) + (x1.f0.length : Int)) (by omega), w64x (by omega)]
  rw [shown_ok 300 (by omega), Option.bind_some, hw]
  by_cases hs : (x0.f0.length : Int) + (x0.f1.length : Int) + (x1.f0.length : Int) + (x1.f1.length : Int) > 200
  · rw [if_pos hs]
  · rw [if_neg hs, if_pos rfl, same_ok _ _ _ _ 300 (by omega) (by omega) (by omega), Option.bind_some, rsame_ok _ _ _ _ 300 (by omega) (by omega) (by omega), Option.bind_some, if_pos (by simp), same_ok _ _ _ _ 300 (by omega) (by omega) (by omega), Option.bind_some]
    simp
end Go.Proofs.Ytkcphjdjhlikhaa.Pure
