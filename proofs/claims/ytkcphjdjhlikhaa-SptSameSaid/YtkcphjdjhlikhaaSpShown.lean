/- The example at the head of the laws of ways. -/
import Derived.Test.YtkcphjdjhlikhaaPx10
import Derived.Test.YtkcphjdjhlikhaaPx11
namespace Go.Proofs.Ytkcphjdjhlikhaa.P
open Go.RowKit Go.Proofs.YtkcphjdjhlikhaaW.PrintWords Go.Proofs.YtkcphjdjhlikhaaW.PrintLast Go.Proofs.YtkcphjdjhlikhaaW.PrintMore
theorem ways_eg : spt_Ways.f 60 3 [(⟨0, 1, 1, true⟩ : S33), (⟨1, 2, 4, true⟩ : S33), (⟨0, 2, 9, true⟩ : S33)] [0] = some ([0, 1, 5], [-1, 0, 1]) := by decide +kernel
theorem sort_eg : ([1, 0] : List Int).mergeSort (fun x y => decide (x ≤ y)) = [0, 1] := by
  simp [List.mergeSort, List.MergeSort.Internal.splitInTwo]
theorem tree_eg : spt_Tree.f 60 3 [(⟨0, 1, 1, true⟩ : S33), (⟨1, 2, 4, true⟩ : S33), (⟨0, 2, 9, true⟩ : S33)] 0 [2] = some [0, 1] := by
  unfold spt_Tree.f
  rw [ways_eg, Option.bind_some]
  have h2 : treeLoop 3 [(⟨0, 1, 1, true⟩ : S33), (⟨1, 2, 4, true⟩ : S33), (⟨0, 2, 9, true⟩ : S33)] [-1, 0, 1] 60 [2] [] = some [1, 0] := by decide +kernel
  rw [h2, Option.bind_some, sort_eg]
  decide +kernel
theorem shown_ok (k : Nat) (hk : 60 ≤ k) : stolonlaw13_shown.f k = some true := by
  have h : stolonlaw13_shown.f 60 = some true := by
    unfold stolonlaw13_shown.f
    rw [Option.bind_some, ways_eg, Option.bind_some, tree_eg, Option.bind_some]
    decide +kernel
  exact at_rounds (fun k => stolonlaw13_shown.mono k) hk h
end Go.Proofs.Ytkcphjdjhlikhaa.P
