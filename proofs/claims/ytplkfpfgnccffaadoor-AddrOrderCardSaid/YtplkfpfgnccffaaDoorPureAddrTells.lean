/- AddrTells over numbers and lists. -/
import Derived.Test.YtplkfpfgnccffaaDoorStAddrTells
import Derived.Test.YtplkfpfgnccffaaDoorAdRef
namespace Go.Proofs.YtplkfpfgnccffaaDoor.Pure
set_option linter.unusedVariables false
set_option linter.unusedSimpArgs false
open Go.RowKit Go.Proofs.YtplkfpfgnccffaaDoor.P Go.Proofs.YtplkfpfgnccffaaDoorW.PrintWords Go.Proofs.YtplkfpfgnccffaaDoorW.PrintLast Go.Proofs.YtplkfpfgnccffaaDoorW.PrintMore
theorem fbs {α β : Type} (x : α) (f : α → Option β) : (some x).bind f = f x := by
  cases h : f x with
  | none => exact h
  | some y => exact h
theorem rgroup_ok (x : Int) : stolonref01_Group.f x = some (decide (x ≥ 3758096384 ∧ x ≤ 4026531839)) := by
  unfold stolonref01_Group.f
  by_cases h : x ≥ 3758096384
  · rw [if_pos h]
    congr 1
    rw [decide_eq_decide]
    exact ⟨fun e => ⟨h, e⟩, fun e => e.2⟩
  · rw [if_neg h, decide_eq_false (fun e => h e.1)]
theorem rlocal_ok (x : Int) : stolonref01_Local.f x = some (decide (x ≥ 3758096384 ∧ x ≤ 3758096639)) := by
  unfold stolonref01_Local.f
  by_cases h : x ≥ 3758096384
  · rw [if_pos h]
    congr 1
    rw [decide_eq_decide]
    exact ⟨fun e => ⟨h, e⟩, fun e => e.2⟩
  · rw [if_neg h, decide_eq_false (fun e => h e.1)]
theorem rasked_ok (x : Int) : stolonref01_Asked.f x = some (decide (x ≥ 3758096640 ∧ x ≤ 4026531839)) := by
  unfold stolonref01_Asked.f
  by_cases h : x ≥ 3758096640
  · rw [if_pos h]
    congr 1
    rw [decide_eq_decide]
    exact ⟨fun e => ⟨h, e⟩, fun e => e.2⟩
  · rw [if_neg h, decide_eq_false (fun e => h e.1)]
theorem group_ok (x : Int) : addr_IsGroup.f x = some (decide (x ≥ 3758096384 ∧ x ≤ 4026531839)) := by
  unfold addr_IsGroup.f
  congr 1
  rw [Bool.eq_iff_iff, beq_iff_eq, decide_eq_true_eq]
  omega
theorem local_ok (x : Int) : addr_IsLocal.f x = some (decide (x ≥ 3758096384 ∧ x ≤ 3758096639)) := by
  unfold addr_IsLocal.f
  congr 1
  rw [Bool.eq_iff_iff, beq_iff_eq, decide_eq_true_eq]
  omega
theorem asked_ok (x : Int) : addr_IsAsked.f x = some (decide (x ≥ 3758096640 ∧ x ≤ 4026531839)) := by
  unfold addr_IsAsked.f
  rw [group_ok, Option.bind_some, local_ok, Option.bind_some]
  by_cases h : x ≥ 3758096384 ∧ x ≤ 4026531839
  · rw [decide_eq_true h, if_pos rfl]
    congr 1
    by_cases h2 : x ≥ 3758096384 ∧ x ≤ 3758096639
    · rw [decide_eq_true h2, decide_eq_false (by omega)]; rfl
    · rw [decide_eq_false h2, decide_eq_true (by omega)]; rfl
  · rw [decide_eq_false h, if_neg (by simp), decide_eq_false (by omega)]
theorem AddrTells : stolonlaw01_AddrTells.Pure := by
  intro x y hx hy
  refine ⟨1000, ?_⟩
  have h0 := u32_of hx
  obtain ⟨a, b, c, d, ha, hb, hc, hd, he, h4⟩ := addr_bytes h0.1 h0.2
  obtain ⟨t, ht, htd⟩ := rtext_ok ha hb hc hd
  unfold stolonlaw01_AddrTells.f
  rw [shown_ok _ (by omega), Option.bind_some, if_pos rfl, group_ok, rgroup_ok, local_ok, rlocal_ok, asked_ok, rasked_ok, show addr_Bytes.f x = some (bytes4 x) from rfl, h4, show addr_Less.f x y = some (decide (x < y)) from rfl]
  rw [he, text_ok ha hb hc hd, Option.bind_some, ht, Option.bind_some, ByteArray.toList_eq, ByteArray.toList_eq, textOf_data ha hb hc hd, htd, if_pos rfl, Option.bind_some, rbytes_ok ha hb hc hd, Option.bind_some, same_ok _ _ (by simp) _ (by simp), Option.bind_some, decide_eq_true rfl, if_pos rfl]
  rw [fbs, fbs, beq_self_eq_true, if_pos rfl, fbs, fbs, beq_self_eq_true, if_pos rfl, fbs, fbs, beq_self_eq_true, if_pos rfl, fbs, beq_self_eq_true]
end Go.Proofs.YtplkfpfgnccffaaDoor.Pure
