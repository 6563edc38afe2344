/- Trees: how many switches links reach; a row without one of its links. Plain lemmas. -/
import Derived.Test.YticjabdkjjbegaaGrFun
namespace Go.Proofs.Yticjabdkjjbegaa.P
set_option linter.unusedVariables false
set_option linter.unusedSimpArgs false
open Go.RowKit Go.Proofs.YticjabdkjjbegaaW.PrintWords Go.Proofs.YticjabdkjjbegaaW.PrintLast Go.Proofs.YticjabdkjjbegaaW.PrintMore
theorem reachL_out {n : Int} {ls : List Lk} {p : Nat → Bool} {a : Int} (he : Ends n ls) (hn : n ≤ 32) (ha : ¬ (0 ≤ a ∧ a < n)) : reachL n ls p a = [] :=
  List.eq_nil_iff_forall_not_mem.2 (fun x hx => ha ((mem_reachL he hn x).1 hx).1)
theorem reachL_self {n : Int} {ls : List Lk} {p : Nat → Bool} {a : Int} (he : Ends n ls) (hn : n ≤ 32) : a ∈ reachL n ls p a ↔ 0 ≤ a ∧ a < n :=
  (mem_reachL he hn a).trans ⟨fun h => h.1, fun h => ⟨h, .refl⟩⟩
theorem reachL_nolinks {n : Int} {ls : List Lk} {a : Int} (he : Ends n ls) (hn : n ≤ 32) (ha : 0 ≤ a ∧ a < n) : reachL n ls (inRow []) a = [a] := by
  refine rising_eq (markedTo_sorted _ _) (List.pairwise_singleton _ _) (fun x => ?_)
  have h1 := mem_reachL (p := inRow []) (a := a) he hn x
  rw [h1, List.mem_singleton]
  constructor
  · rintro ⟨_, h⟩
    cases h with
    | refl => rfl
    | step i _ _ hp _ => cases hp
  · rintro rfl; exact ⟨ha, .refl⟩
theorem reachL_few {n : Int} {ls : List Lk} {l : List Int} {a : Int} (h : Rt n ls) : (reachL n ls (inRow l) a).length ≤ l.length + 1 := by
  rw [reachL_len]
  have h1 := spread_count (p := inRow l) (a := a) h.ends h.1.2
  have h2 := used_le l ls (spreadF n ls (inRow l) a)
  omega
theorem tree_of_len {n : Int} {ls : List Lk} {l : List Int} {a : Int} (h : Rt n ls) (ha : AreIn ls l) (hs : l.Pairwise (· < ·)) (hl : (reachL n ls (inRow l) a).length = l.length + 1) : TreeP n ls l a := by
  refine ⟨hs, hl, fun i hi => ?_⟩
  rw [reachL_len] at hl
  have h1 := spread_count (p := inRow l) (a := a) h.ends h.1.2
  have h2 := (used_full (m := spreadF n ls (inRow l) a) ha (by omega) (hs.imp (fun h => by omega)) i hi).1
  have h3 := h.ends _ (lk_mem ls i.toNat (by have := ha i hi; omega))
  have h4 := h.1.2
  unfold reachL
  rw [mem_markedTo]
  exact ⟨h3.1, by omega, h2⟩
theorem tree_root {n : Int} {ls : List Lk} {l : List Int} {a : Int} (h : Rt n ls) (ht : TreeP n ls l a) : 0 ≤ a ∧ a < n := by
  apply Decidable.byContradiction
  intro hc
  have := ht.2.1
  rw [reachL_out h.ends h.1.2 hc] at this
  simp at this
end Go.Proofs.Yticjabdkjjbegaa.P
