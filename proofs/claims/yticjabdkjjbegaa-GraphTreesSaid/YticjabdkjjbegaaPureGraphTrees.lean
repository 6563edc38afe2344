/- GraphTrees over numbers and lists. -/
import Derived.Test.YticjabdkjjbegaaStGraphTrees
import Derived.Test.YticjabdkjjbegaaGrFun
namespace Go.Proofs.Yticjabdkjjbegaa.Pure
set_option linter.unusedVariables false
set_option linter.unusedSimpArgs false
open Go.RowKit Go.Proofs.Yticjabdkjjbegaa.P Go.Proofs.YticjabdkjjbegaaW.PrintWords Go.Proofs.YticjabdkjjbegaaW.PrintLast Go.Proofs.YticjabdkjjbegaaW.PrintMore
theorem GraphTrees : stolonlaw11_GraphTrees.Pure := by
  rintro ⟨n, ls⟩ l a _ _ _
  refine ⟨9999 + 1, ?_⟩
  unfold stolonlaw11_GraphTrees.f
  rw [shown_ok _ (by omega), bs, rightR_ok _ _ _ (by omega), bs]
  have yes : stolonlaw11_GraphTrees.j0 (9999 + 1) l a true true n ls = some true := by rw [stolonlaw11_GraphTrees.j0, if_pos rfl]
  by_cases h : Rt n ls
  · rw [if_pos (decide_eq_true h)]
    by_cases h1 : (l.length : Int) > 100
    · rw [if_pos h1]; exact yes
    · rw [if_neg h1, areR_ok n ls l _ (by omega) (by omega), bs]
      by_cases ha : AreIn ls l
      · rw [decide_eq_true ha, Bool.not_true, stolonlaw11_GraphTrees.j0, if_neg (by simp), if_pos rfl, nodes_ok n ls l a h, bs, nodesR_ok n ls l a _ h (by omega) (by omega), bs, ints_ok _ _ _ (by have := reachL_le n ls (inRow l) a; omega) (by have := reachL_le n ls (inRow l) a; omega), bs, decide_eq_true rfl, if_pos rfl, tree_ok n ls l a h (by omega) ha, bs, treeR_ok n ls l a _ h (by omega) ha (by omega), bs, if_pos (by simp), cost_ok h l _ (by omega) ha (by omega), bs, costR_ok h l _ (by omega) ha (by omega), bs]
        simp
      · rw [decide_eq_false ha]; exact yes
  · rw [if_neg (by simp [h])]; exact yes
end Go.Proofs.Yticjabdkjjbegaa.Pure
