/- AddrCuts over numbers and lists. -/
import Derived.Test.YtplkfpfgnccffaaDoorStAddrCuts
import Derived.Test.YtplkfpfgnccffaaDoorAdRef
namespace Go.Proofs.YtplkfpfgnccffaaDoor.Pure
set_option linter.unusedVariables false
set_option linter.unusedSimpArgs false
open Go.RowKit Go.Proofs.YtplkfpfgnccffaaDoor.P Go.Proofs.YtplkfpfgnccffaaDoorW.PrintWords Go.Proofs.YtplkfpfgnccffaaDoorW.PrintLast Go.Proofs.YtplkfpfgnccffaaDoorW.PrintMore
theorem four_bytes {l : List Int} (hb : ∀ y ∈ l, 0 ≤ y ∧ y ≤ 255) (h : l.length = 4) : ∃ a b c d : Nat, a < 256 ∧ b < 256 ∧ c < 256 ∧ d < 256 ∧ l = [(a : Int), b, c, d] := by
  obtain ⟨a, b, c, d, rfl⟩ := len4 h
  have h0 := hb a (by simp)
  have h1 := hb b (by simp)
  have h2 := hb c (by simp)
  have h3 := hb d (by simp)
  refine ⟨a.toNat, b.toNat, c.toNat, d.toNat, by omega, by omega, by omega, by omega, ?_⟩
  rw [show ((a.toNat : Nat) : Int) = a by omega, show ((b.toNat : Nat) : Int) = b by omega, show ((c.toNat : Nat) : Int) = c by omega, show ((d.toNat : Nat) : Int) = d by omega]
theorem of_short {l : List Int} (h : (l.length : Int) < 4) (k : Nat) : addr_Of.f k l = some (0, 3) := by
  unfold addr_Of.f
  rw [if_pos h]
theorem of_long {l : List Int} (h : (l.length : Int) > 4) (k : Nat) : addr_Of.f k l = some (0, 2) := by
  unfold addr_Of.f
  rw [if_neg (by omega), if_pos h]
theorem AddrCuts : stolonlaw01_AddrCuts.Pure := by
  intro l hc
  refine ⟨1000, ?_⟩
  have hb : ∀ y ∈ l, 0 ≤ y ∧ y ≤ 255 := fun y hy => u8_of (hc.2.2 y hy)
  unfold stolonlaw01_AddrCuts.f
  rw [shown_ok _ (by omega), Option.bind_some]
  by_cases h : (l.length : Int) > 100
  · rw [if_pos h]
  rw [if_neg h]
  by_cases h4 : (l.length : Int) < 4
  · rw [of_short h4, Option.bind_some, if_pos h4, if_pos rfl, if_pos rfl]
    rfl
  by_cases h5 : (l.length : Int) > 4
  · rw [of_long h5, Option.bind_some, if_neg h4, if_pos h5, if_pos rfl, if_pos rfl]
    rfl
  · obtain ⟨a, b, c, d, ha, hb2, hc2, hd, he⟩ := four_bytes hb (by omega)
    have ho : addr_Of.f 1000 l = some (valA a b c d, 0) := by rw [he]; exact of_ok ha hb2 hc2 hd _ (by omega)
    rw [ho, Option.bind_some, if_neg h4, if_neg h5, if_pos rfl, if_pos rfl, show addr_Bytes.f (valA a b c d) = some (bytes4 (valA a b c d)) from rfl, Option.bind_some, bytes_val ha hb2 hc2 hd, he, same_ok _ _ (by simp) _ (by simp), Option.bind_some, decide_eq_true rfl]
end Go.Proofs.YtplkfpfgnccffaaDoor.Pure
