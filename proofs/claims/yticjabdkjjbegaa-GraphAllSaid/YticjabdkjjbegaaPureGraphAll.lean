/- GraphAll over numbers and lists. -/
import Derived.Test.YticjabdkjjbegaaStGraphAll
import Derived.Test.YticjabdkjjbegaaGrTree
namespace Go.Proofs.Yticjabdkjjbegaa.Pure
set_option linter.unusedVariables false
set_option linter.unusedSimpArgs false
open Go.RowKit Go.Proofs.Yticjabdkjjbegaa.P Go.Proofs.YticjabdkjjbegaaW.PrintWords Go.Proofs.YticjabdkjjbegaaW.PrintLast Go.Proofs.YticjabdkjjbegaaW.PrintMore
def allL (n : Nat) : List Int := (List.range n).map (fun (i : Nat) => (i : Int))
theorem allL_in (n i : Nat) : inRow (allL n) i = true ↔ i < n := by
  rw [inRow_iff]
  unfold allL
  rw [List.mem_map]
  constructor
  · rintro ⟨j, hj, e⟩
    have := List.mem_range.1 hj
    omega
  · exact fun h => ⟨i, List.mem_range.2 h, rfl⟩
theorem all_l1 (n : Int) (ls : List Lk) (a : Int) (h : Rt n ls) : ∀ (d i k : Nat), i + d = (reachL n ls (upB ls) a).length → 100 ≤ k → stolonlaw11_GraphAll.l1 (k + d + 1) a true (reachL n ls (upB ls) a) (reachL n ls (inRow (allL ls.length)) a) (i : Int) n ls = some true := by
  have hr := reachL_le n ls (upB ls) a
  have hr2 := reachL_le n ls (inRow (allL ls.length)) a
  intro d
  induction d with
  | zero =>
    intro i k hi hk
    have hself := reachL_self (p := inRow (allL ls.length)) (a := a) h.ends h.1.2
    have he := h.ends
    have hn := h.1.2
    have hnil : AreIn ls [] := fun i hi => by cases hi
    rw [Nat.add_zero, stolonlaw11_GraphAll.l1, if_neg (by omega)]
    by_cases h0 : a ≥ 0
    · rw [if_pos h0, if_pos rfl, tree_ok n ls [] a h (by simp) hnil, bs]
      by_cases h1 : a < n
      · have ha : 0 ≤ a ∧ a < n := ⟨h0, h1⟩
        have ht : TreeP n ls [] a := ⟨List.Pairwise.nil, by rw [reachL_nolinks he hn ha]; rfl, fun i hi => by cases hi⟩
        have hpos := List.length_pos_of_mem (hself.2 ha)
        rw [decide_eq_true ht, decide_eq_true h1, if_pos (by simp), nodes_ok n ls [] a h, bs, reachL_nolinks he hn ha, if_pos (by simp), cost_ok h [] _ (by simp) hnil (by simp; omega), bs, if_pos (show costL ls [] = 0 from rfl)]
        simp
        exact hpos
      · have ha : ¬ (0 ≤ a ∧ a < n) := fun e => h1 e.2
        have ht : ¬ TreeP n ls [] a := fun e => ha (tree_root h e)
        rw [decide_eq_false ht, decide_eq_false h1, if_pos (by simp), nodes_ok n ls [] a h, bs, reachL_out he hn ha, if_pos (by simp), cost_ok h [] _ (by simp) hnil (by simp; omega), bs, if_pos (show costL ls [] = 0 from rfl), reachL_out he hn ha]
        simp
    · have ha : ¬ (0 ≤ a ∧ a < n) := fun e => h0 e.1
      have ht : ¬ TreeP n ls [] a := fun e => ha (tree_root h e)
      rw [if_neg h0, if_pos rfl, tree_ok n ls [] a h (by simp) hnil, bs, decide_eq_false ht, if_pos (by simp), nodes_ok n ls [] a h, bs, reachL_out he hn ha, if_pos (by simp), cost_ok h [] _ (by simp) hnil (by simp; omega), bs, if_pos (show costL ls [] = 0 from rfl), reachL_out he hn ha]
      simp
  | succ d ih =>
    intro i k hi hk
    have hlt : i < (reachL n ls (upB ls) a).length := by omega
    have hm : rd (reachL n ls (upB ls) a) (i : Int) ∈ reachL n ls (inRow (allL ls.length)) a := by
      rw [rd_at _ i hlt]
      have h1 := (mem_reachL h.ends h.1.2 _).1 (List.getElem_mem hlt)
      exact (mem_reachL h.ends h.1.2 _).2 ⟨h1.1, h1.2.mono (fun j hj _ => (allL_in _ j).2 hj)⟩
    rw [show k + (d + 1) + 1 = (k + d + 1) + 1 by omega, stolonlaw11_GraphAll.l1, if_pos (by omega), if_pos (by omega), in_ok _ _ _ (by omega) (by omega), bs, decide_eq_true hm, if_pos rfl, w64 (x := (i : Int) + 1) (by omega)]
    exact ih (i + 1) k (by omega) hk
theorem all_l0 (n : Int) (ls : List Lk) (a : Int) (h : Rt n ls) : ∀ (d i k : Nat), i + d = ls.length → 200 ≤ k → stolonlaw11_GraphAll.l0 (k + d + 1) a true (allL i) (i : Int) n ls = some true := by
  have hr := reachL_le n ls (upB ls) a
  intro d
  induction d with
  | zero =>
    intro i k hi hk
    obtain rfl : i = ls.length := by omega
    obtain ⟨k, rfl⟩ : ∃ k', k = k' + (reachL n ls (upB ls) a).length + 1 := ⟨k - (reachL n ls (upB ls) a).length - 1, by omega⟩
    rw [Nat.add_zero, stolonlaw11_GraphAll.l0, if_neg (by omega), reach_ok n ls a h, bs, nodes_ok n ls _ a h, bs]
    exact all_l1 n ls a h _ 0 k (by omega) (by omega)
  | succ d ih =>
    intro i k hi hk
    have h1 := ih (i + 1) k (by omega) hk
    have h2 := h.2.1
    have hl : (allL i).length = i := by simp [allL]
    rw [show allL (i + 1) = allL i ++ [(i : Int)] by unfold allL; rw [List.range_succ, List.map_append]; rfl] at h1
    rw [show k + (d + 1) + 1 = (k + d + 1) + 1 by omega, stolonlaw11_GraphAll.l0, if_pos (by omega), if_pos (by omega), w64 (x := (i : Int) + 1) (by omega)]
    exact h1
theorem GraphAll : stolonlaw11_GraphAll.Pure := by
  rintro ⟨n, ls⟩ a _ _
  refine ⟨9000 + ls.length + 1, ?_⟩
  unfold stolonlaw11_GraphAll.f
  simp only
  rw [shown_ok _ (by omega), bs, rightR_ok _ _ _ (by omega), bs]
  by_cases h : Rt n ls
  · rw [if_pos (decide_eq_true h)]
    exact all_l0 n ls a h ls.length 0 9000 (by omega) (by omega)
  · rw [if_neg (by simp [h])]
end Go.Proofs.Yticjabdkjjbegaa.Pure
