/- AddrReads over numbers and lists. -/
import Derived.Test.YtplkfpfgnccffaaDoorStAddrReads
import Derived.Test.YtplkfpfgnccffaaDoorPureAddrCuts
namespace Go.Proofs.YtplkfpfgnccffaaDoor.Pure
set_option linter.unusedVariables false
set_option linter.unusedSimpArgs false
open Go.RowKit Go.Proofs.YtplkfpfgnccffaaDoor.P Go.Proofs.YtplkfpfgnccffaaDoorW.PrintWords Go.Proofs.YtplkfpfgnccffaaDoorW.PrintLast Go.Proofs.YtplkfpfgnccffaaDoorW.PrintMore
theorem ofs_same {l : List Int} (hb : ∀ y ∈ l, 0 ≤ y ∧ y ≤ 255) (k : Nat) (hk : 5 ≤ k) : ∃ r, addr_Of.f k l = some r ∧ stolonref01_Of.f l = some r := by
  by_cases h4 : (l.length : Int) < 4
  · refine ⟨_, of_short h4 k, ?_⟩
    unfold stolonref01_Of.f
    rw [if_pos h4]
  by_cases h5 : (l.length : Int) > 4
  · refine ⟨_, of_long h5 k, ?_⟩
    unfold stolonref01_Of.f
    rw [if_neg h4, if_pos h5]
  · obtain ⟨a, b, c, d, ha, hb2, hc, hd, he⟩ := four_bytes hb (by omega)
    refine ⟨_, by rw [he]; exact of_ok ha hb2 hc hd k hk, ?_⟩
    have r0 : rd l 0 = a := by rw [he]; rfl
    have r1 : rd l 1 = b := by rw [he]; rfl
    have r2 : rd l 2 = c := by rw [he]; rfl
    have r3 : rd l 3 = d := by rw [he]; rfl
    unfold stolonref01_Of.f
    rw [if_neg h4, if_neg h5, if_pos (by omega), if_pos (by omega), if_pos (by omega), if_pos (by omega), r0, r1, r2, r3]
    exact congrArg (fun z => some (z, (0 : Int))) (by unfold valA; omega)
theorem AddrReads : stolonlaw01_AddrReads.Pure := by
  intro s l hs hc
  refine ⟨1001, ?_⟩
  have hb : ∀ y ∈ l, 0 ≤ y ∧ y ≤ 255 := fun y hy => u8_of (hc.2.2 y hy)
  unfold stolonlaw01_AddrReads.f
  rw [shown_ok _ (by omega), Option.bind_some]
  by_cases h : (s.size : Int) > 100
  · rw [if_pos h, stolonlaw01_AddrReads.j0, if_pos rfl]
  rw [if_neg h]
  by_cases h2 : (l.length : Int) > 100
  · rw [decide_eq_true h2, stolonlaw01_AddrReads.j0, if_pos rfl]
  rw [decide_eq_false h2, stolonlaw01_AddrReads.j0, if_neg (by simp)]
  obtain ⟨e1, e2⟩ := parses_same (s := s) (by omega) 1000 (by omega)
  obtain ⟨r, f1, f2⟩ := ofs_same hb 1000 (by omega)
  obtain ⟨q, hq⟩ : ∃ q, addr_Parse.f 1000 s = some q := by
    rcases e2 with h | ⟨a, b, c, d, _, _, _, _, _, h⟩
    · exact ⟨_, h⟩
    · exact ⟨_, h⟩
  rw [← e1, hq, Option.bind_some, Option.bind_some, f1, Option.bind_some, f2, Option.bind_some, if_pos rfl, if_pos rfl, if_pos rfl, if_pos rfl, beq_self_eq_true]
end Go.Proofs.YtplkfpfgnccffaaDoor.Pure
