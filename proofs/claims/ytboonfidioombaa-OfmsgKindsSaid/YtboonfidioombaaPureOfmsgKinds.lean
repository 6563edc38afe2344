/- OfmsgKinds over numbers and lists. -/
import Derived.Test.YtboonfidioombaaStOfmsgKinds
import Derived.Test.YtboonfidioombaaOfDec
namespace Go.Proofs.Ytboonfidioombaa.Pure
set_option linter.unusedVariables false
set_option linter.unusedSimpArgs false
open Go.RowKit Go.Proofs.Ytboonfidioombaa.P Go.Proofs.YtboonfidioombaaW.PrintWords Go.Proofs.YtboonfidioombaaW.PrintLast Go.Proofs.YtboonfidioombaaW.PrintMore
theorem bare_right (kd xid : Int) : rightM ⟨kd, xid, ⟨0, 0, 0, 0, 0, []⟩, 0, false, []⟩ = decide (3 ≤ kd ∧ kd ≤ 7) := by
  unfold rightM
  simp only
  by_cases h1 : kd = 1
  · subst h1; rw [if_pos rfl]; rfl
  rw [if_neg h1]
  by_cases h2 : kd = 2
  · subst h2; rw [if_pos rfl]; rfl
  rw [if_neg h2]
  by_cases h3 : 3 ≤ kd ∧ kd ≤ 6
  · rw [if_pos h3, show decide (3 ≤ kd ∧ kd ≤ 7) = true from decide_eq_true (by omega)]; rfl
  rw [if_neg h3]
  by_cases h7 : kd = 7
  · subst h7; rw [if_pos rfl]; rfl
  rw [if_neg h7, show decide (3 ≤ kd ∧ kd ≤ 7) = false from decide_eq_false (by omega)]
  split <;> rfl
theorem port_right (kd xid : Int) (h : kd = 8 ∨ kd = 9) : rightM ⟨kd, xid, ⟨0, 0, 0, 0, 0, []⟩, 64, false, []⟩ = true := by
  rcases h with rfl | rfl <;> rfl
theorem OfmsgKinds : stolonlaw16_OfmsgKinds.Pure := by
  intro kd xid hk hx
  refine ⟨1000, ?_⟩
  unfold stolonlaw16_OfmsgKinds.f
  have e1 := mright_ok ⟨kd, xid, ⟨0, 0, 0, 0, 0, []⟩, 0, false, []⟩ (by simp) 1000 (by simp)
  have e2 := mright_ok ⟨kd, xid, ⟨0, 0, 0, 0, 0, []⟩, 64, false, []⟩ (by simp) 1000 (by simp)
  simp only at e1 e2
  rw [shown_ok _ (by omega), fbs, e1, fbs, bare_right]
  have fin : (if kd = 8 then ((ofmsg_Right.f 1000 kd xid 0 0 0 0 0 [] 64 false []).bind fun t => (some t)) else (if kd = 9 then ((ofmsg_Right.f 1000 kd xid 0 0 0 0 0 [] 64 false []).bind fun t => (some t)) else (some true))) = some true := by
    by_cases h8 : kd = 8
    · rw [if_pos h8, e2, fbs, port_right kd xid (.inl h8)]
    · rw [if_neg h8]
      by_cases h9 : kd = 9
      · rw [if_pos h9, e2, fbs, port_right kd xid (.inr h9)]
      · rw [if_neg h9]
  by_cases h3 : kd ≥ 3
  · rw [if_pos h3, if_pos rfl, if_pos ?_]
    · exact fin
    · rw [beq_iff_eq, decide_eq_decide]
      omega
  · rw [if_neg h3, if_pos rfl, if_pos ?_]
    · exact fin
    · rw [beq_iff_eq, decide_eq_false]
      omega
end Go.Proofs.Ytboonfidioombaa.Pure
