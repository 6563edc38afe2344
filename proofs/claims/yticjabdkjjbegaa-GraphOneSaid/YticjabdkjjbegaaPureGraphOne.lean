/- GraphOne over numbers and lists. -/
import Derived.Test.YticjabdkjjbegaaStGraphOne
import Derived.Test.YticjabdkjjbegaaGrTree
namespace Go.Proofs.Yticjabdkjjbegaa.Pure
set_option linter.unusedVariables false
set_option linter.unusedSimpArgs false
open Go.RowKit Go.Proofs.Yticjabdkjjbegaa.P Go.Proofs.YticjabdkjjbegaaW.PrintWords Go.Proofs.YticjabdkjjbegaaW.PrintLast Go.Proofs.YticjabdkjjbegaaW.PrintMore
theorem GraphOne : stolonlaw11_GraphOne.Pure := by
  rintro ⟨⟨n, ls⟩, l, a, o⟩ _
  refine ⟨9997 + 1 + 1 + 1, ?_⟩
  unfold stolonlaw11_GraphOne.f
  simp only
  rw [shown_ok _ (by omega), bs, rightR_ok _ _ _ (by omega), bs]
  have yes : stolonlaw11_GraphOne.j0 (9997 + 1 + 1 + 1) l a o true true n ls = some true := by rw [stolonlaw11_GraphOne.j0, if_pos rfl]
  by_cases h : Rt n ls
  · rw [if_pos (decide_eq_true h)]
    by_cases h1 : (l.length : Int) > 100
    · rw [if_pos h1]; exact yes
    · rw [if_neg h1, areR_ok n ls l _ (by omega) (by omega), bs]
      by_cases ha : AreIn ls l
      · rw [if_pos (decide_eq_true ha), tree_ok n ls l a h (by omega) ha, bs]
        by_cases ht : TreeP n ls l a
        · have hroot := tree_root h ht
          rw [decide_eq_true ht, Bool.not_true, stolonlaw11_GraphOne.j0, if_neg (by simp), nodes_ok n ls l a h, bs, w64 (by omega), if_pos (by have := ht.2.1; omega), in_ok _ _ _ (by have := reachL_le n ls (inRow l) a; omega) (by have := reachL_le n ls (inRow l) a; omega), bs, decide_eq_true ((reachL_self h.ends h.1.2).2 hroot), Bool.not_true, stolonlaw11_GraphOne.j1, if_neg (by simp)]
          have yes2 : stolonlaw11_GraphOne.j2 (9997 + 1) l a o true (reachL n ls (inRow l) a) true n ls = some true := by rw [stolonlaw11_GraphOne.j2, if_pos rfl]
          by_cases h2 : o < 0
          · rw [if_pos h2]; exact yes2
          · rw [if_neg h2]
            by_cases h3 : o ≥ (l.length : Int)
            · rw [decide_eq_true h3]; exact yes2
            · obtain ⟨m, rfl⟩ : ∃ m : Nat, o = m := ⟨o.toNat, by omega⟩
              have hm : m < l.length := by omega
              have e : ([] : List Int) ++ l.take m ++ l.drop (m + 1) = l.eraseIdx m := by rw [List.nil_append, List.eraseIdx_eq_take_drop_succ]
              have hsub := List.eraseIdx_sublist l m
              have hlen : (l.eraseIdx m).length = l.length - 1 := List.length_eraseIdx_of_lt hm
              have ha2 : AreIn ls (l.eraseIdx m) := fun i hi => ha i (hsub.subset hi)
              have hfew := reachL_few (l := l.eraseIdx m) (a := a) h
              have hl := ht.2.1
              rw [decide_eq_false h3, stolonlaw11_GraphOne.j2, if_neg (by simp), bs, if_pos (by omega), if_pos (by omega), if_pos (by simp; omega), bs, w64 (x := (m : Int) + 1) (by omega), if_pos (by omega), if_pos (by omega), show (m : Int) + 1 = ((m + 1 : Nat) : Int) from rfl, Int.toNat_natCast, Int.toNat_natCast, if_pos (by simp; omega), bs, e, if_pos rfl, nodes_ok n ls _ a h, bs, if_pos (by omega), tree_ok n ls _ a h (by omega) ha2, bs, bs, w64 (by omega)]
              refine congrArg some ?_
              by_cases h4 : TreeP n ls (l.eraseIdx m) a
              · rw [decide_eq_true h4]
                have : ((reachL n ls (inRow (l.eraseIdx m)) a).length : Int) = ((l.eraseIdx m).length : Int) + 1 := by have := h4.2.1; omega
                rw [this]
                simp
              · rw [decide_eq_false h4]
                have : ¬ ((reachL n ls (inRow (l.eraseIdx m)) a).length : Int) = ((l.eraseIdx m).length : Int) + 1 := fun e2 => h4 (tree_of_len h ha2 (ht.1.sublist hsub) (by omega))
                simp [this]
        · rw [decide_eq_false ht]; exact yes
      · rw [if_neg (by simp [ha])]; exact yes
  · rw [if_neg (by simp [h])]; exact yes
end Go.Proofs.Yticjabdkjjbegaa.Pure
