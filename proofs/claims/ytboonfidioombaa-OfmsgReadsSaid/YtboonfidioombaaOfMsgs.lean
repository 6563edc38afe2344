/- A row of messages is the same as itself. -/
import Derived.Test.YtboonfidioombaaOfDec
import Derived.Test.YtboonfidioombaaPx31
namespace Go.Proofs.Ytboonfidioombaa.P
set_option linter.unusedVariables false
set_option linter.unusedSimpArgs false
open Go.RowKit Go.Proofs.YtboonfidioombaaW.PrintWords Go.Proofs.YtboonfidioombaaW.PrintLast Go.Proofs.YtboonfidioombaaW.PrintMore
theorem msgs_loop (l : List Ms) (hl : l.length ≤ 1000000) (hs : ∀ m ∈ l, m.f2.f5.length ≤ 4000 ∧ m.f5.length ≤ 4000) : ∀ (d i k : Nat), i + d = l.length → d + 4010 ≤ k → stolonref16_Msgs.l0 k l l (i : Int) = some true := by
 intro d
 induction d with
 | zero =>
  intro i k hi hk
  obtain ⟨k, rfl⟩ : ∃ j, k = j + 1 := ⟨k - 1, by omega⟩
  rw [stolonref16_Msgs.l0, if_neg (by omega)]
 | succ d ih =>
  intro i k hi hk
  obtain ⟨k, rfl⟩ : ∃ j, k = j + 1 := ⟨k - 1, by omega⟩
  have h1 : i < l.length := by omega
  have h2 := hs _ (List.getElem_mem h1)
  have := ih (i + 1) k (by omega) (by omega)
  rw [Int.natCast_add] at this
  rw [stolonref16_Msgs.l0, if_pos (by omega), if_pos (by omega), if_pos (by omega), rd_ms l i h1, rmsame_ok _ _ (by omega) (by omega) k (by omega) (by omega), fbs, sameRef_iff.2 rfl, if_pos rfl, fw64 (by omega)]
  exact this
theorem msgs_refl (l : List Ms) (hl : l.length ≤ 1000000) (hs : ∀ m ∈ l, m.f2.f5.length ≤ 4000 ∧ m.f5.length ≤ 4000) (k : Nat) (hk : l.length + 4010 ≤ k) : stolonref16_Msgs.f k l l = some true := by
 unfold stolonref16_Msgs.f
 rw [if_pos rfl]
 exact msgs_loop l hl hs l.length 0 k (by omega) hk
end Go.Proofs.Ytboonfidioombaa.P
