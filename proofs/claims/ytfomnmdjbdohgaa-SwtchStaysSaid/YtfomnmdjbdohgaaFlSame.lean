/- Whether two rules are the same, by the program and by the document, as plain functions. -/
import Derived.Test.YtfomnmdjbdohgaaFlFun
import Derived.Test.YtfomnmdjbdohgaaPx26
import Derived.Test.YtfomnmdjbdohgaaPx8
import Derived.Test.YtfomnmdjbdohgaaPx9
namespace Go.Proofs.Ytfomnmdjbdohgaa.P
set_option linter.unusedVariables false
set_option linter.unusedSimpArgs false
open Go.RowKit Go.Proofs.YtfomnmdjbdohgaaW.PrintWords Go.Proofs.YtfomnmdjbdohgaaW.PrintLast Go.Proofs.YtfomnmdjbdohgaaW.PrintMore
theorem ff : ¬ (false = true) := by simp
def outsB : List Ot → List Ot → Bool
 | a :: l, b :: m => ((a.f0 == b.f0) && (a.f1 == b.f1)) && outsB l m
 | _, _ => true
def sameB (r s : Ru) : Bool := (r.f0 == s.f0) && ((r.f1 == s.f1) && ((r.f2 == s.f2) && ((r.f3 == s.f3) && ((r.f4 == s.f4) && (((r.f5.length : Int) == (s.f5.length : Int)) && outsB r.f5 s.f5)))))
theorem rsame_loop (l m : List Ot) (hl : l.length ≤ 1000000) (he : l.length = m.length) (a0 a1 a2 a3 a4 b0 b1 b2 b3 b4 : Int) : ∀ (d i k : Nat), i + d = l.length → d + 1 ≤ k → stolonref15_Same.l0 k (i : Int) a0 a1 a2 a3 a4 l b0 b1 b2 b3 b4 m = some (outsB (l.drop i) (m.drop i)) := by
 intro d
 induction d with
 | zero =>
  intro i k hi hk
  obtain ⟨k, rfl⟩ : ∃ j, k = j + 1 := ⟨k - 1, by omega⟩
  rw [stolonref15_Same.l0, if_neg (by omega), List.drop_of_length_le (by omega), List.drop_of_length_le (by omega)]
  rfl
 | succ d ih =>
  intro i k hi hk
  obtain ⟨k, rfl⟩ : ∃ j, k = j + 1 := ⟨k - 1, by omega⟩
  have hlt : i < l.length := by omega
  have hlt2 : i < m.length := by omega
  have := ih (i + 1) k (by omega) (by omega)
  rw [Int.natCast_add] at this
  rw [stolonref15_Same.l0, if_pos (by omega), if_pos (by omega), if_pos (by omega), rd_ot l i hlt, rd_ot m i hlt2, fw64 (by omega), List.drop_eq_getElem_cons hlt, List.drop_eq_getElem_cons hlt2, outsB]
  cases h1 : (l[i]'hlt).f0 == (m[i]'hlt2).f0 with
  | false => rfl
  | true =>
   cases h2 : (l[i]'hlt).f1 == (m[i]'hlt2).f1 with
   | false => rfl
   | true => exact this
theorem rsame_ok (r s : Ru) (hl : r.f5.length ≤ 1000000) (k : Nat) (hk : r.f5.length + 2 ≤ k) : stolonref15_Same.f k r.f0 r.f1 r.f2 r.f3 r.f4 r.f5 s.f0 s.f1 s.f2 s.f3 s.f4 s.f5 = some (sameB r s) := by
 obtain ⟨k, rfl⟩ : ∃ j, k = j + 1 := ⟨k - 1, by omega⟩
 have no : ∀ x2 x3 x4 x5 x6 x7 x8 x9 x10 x11 x12 x13, stolonref15_Same.j0 (k + 1) true x2 x3 x4 x5 x6 x7 x8 x9 x10 x11 x12 x13 = some false := by
  intros
  rw [stolonref15_Same.j0, if_pos rfl]
 unfold stolonref15_Same.f sameB
 by_cases h0 : r.f0 = s.f0
 ·rw [if_pos h0, beq_iff_eq.2 h0]
  by_cases h1 : r.f1 = s.f1
  ·rw [if_pos h1, beq_iff_eq.2 h1]
   by_cases h2 : r.f2 = s.f2
   ·rw [if_pos h2, beq_iff_eq.2 h2]
    by_cases h3 : r.f3 = s.f3
    ·rw [if_pos h3, beq_iff_eq.2 h3]
     by_cases h4 : r.f4 = s.f4
     ·rw [if_pos h4, beq_iff_eq.2 h4]
      by_cases h5 : (r.f5.length : Int) = (s.f5.length : Int)
      ·rw [bne_eq_false_iff_eq.2 h5, beq_iff_eq.2 h5, stolonref15_Same.j0, if_neg ff]
       exact rsame_loop _ _ hl (by omega) _ _ _ _ _ _ _ _ _ _ r.f5.length 0 k (by omega) (by omega)
      ·rw [bne_iff_ne.2 h5, beq_eq_false_iff_ne.2 h5, no]; rfl
     ·rw [if_neg h4, beq_eq_false_iff_ne.2 h4, no]; rfl
    ·rw [if_neg h3, beq_eq_false_iff_ne.2 h3, no]; rfl
   ·rw [if_neg h2, beq_eq_false_iff_ne.2 h2, no]; rfl
  ·rw [if_neg h1, beq_eq_false_iff_ne.2 h1, no]; rfl
 ·rw [if_neg h0, beq_eq_false_iff_ne.2 h0, no]; rfl
theorem outs_loop (l m : List Ot) (hl : l.length ≤ 1000000) (he : l.length = m.length) : ∀ (d i k : Nat), i + d = l.length → d + 1 ≤ k → api_Out.l0 k l m (l.length : Int) (i : Int) = some (outsB (l.drop i) (m.drop i)) := by
 intro d
 induction d with
 | zero =>
  intro i k hi hk
  obtain ⟨k, rfl⟩ : ∃ j, k = j + 1 := ⟨k - 1, by omega⟩
  rw [api_Out.l0, if_neg (by omega), List.drop_of_length_le (by omega), List.drop_of_length_le (by omega)]
  rfl
 | succ d ih =>
  intro i k hi hk
  obtain ⟨k, rfl⟩ : ∃ j, k = j + 1 := ⟨k - 1, by omega⟩
  have hlt : i < l.length := by omega
  have hlt2 : i < m.length := by omega
  have := ih (i + 1) k (by omega) (by omega)
  rw [Int.natCast_add] at this
  rw [api_Out.l0, if_pos (by omega), if_pos (by omega), if_pos (by omega), if_pos (by omega), rd_ot l i hlt, rd_ot m i hlt2, fw64 (by omega), List.drop_eq_getElem_cons hlt, List.drop_eq_getElem_cons hlt2, outsB]
  cases h1 : (l[i]'hlt).f0 == (m[i]'hlt2).f0 with
  | false => rfl
  | true =>
   cases h2 : (l[i]'hlt).f1 == (m[i]'hlt2).f1 with
   | false => rfl
   | true => exact this
theorem same_ok (r s : Ru) (hl : r.f5.length ≤ 1000000) (k : Nat) (hk : r.f5.length + 2 ≤ k) : flow_Same.f k r.f0 r.f1 r.f2 r.f3 r.f4 r.f5 s.f0 s.f1 s.f2 s.f3 s.f4 s.f5 = some (sameB r s) := by
 unfold flow_Same.f flow_of.f sameB
 rw [fbs, fbs]
 simp only
 cases h0 : r.f0 == s.f0 with
 | false => rfl
 | true =>
  cases h1 : r.f1 == s.f1 with
  | false => rfl
  | true =>
   cases h2 : r.f2 == s.f2 with
   | false => rfl
   | true =>
    rw [if_pos (show (true && (true && true)) = true from rfl)]
    by_cases h3 : r.f3 = s.f3
    ·rw [if_pos h3, beq_iff_eq.2 h3]
     by_cases h4 : r.f4 = s.f4
     ·rw [if_pos h4, beq_iff_eq.2 h4]
      unfold api_Out.f
      by_cases h5 : (r.f5.length : Int) = (s.f5.length : Int)
      ·rw [if_pos h5, beq_iff_eq.2 h5]
       have := outs_loop r.f5 s.f5 hl (by omega) r.f5.length 0 k (by omega) (by omega)
       rw [show ((0 : Nat) : Int) = 0 from rfl] at this
       rw [this, fbs]
       rfl
      ·rw [if_neg h5, beq_eq_false_iff_ne.2 h5]; rfl
     ·rw [if_neg h4, beq_eq_false_iff_ne.2 h4]; rfl
    ·rw [if_neg h3, beq_eq_false_iff_ne.2 h3]; rfl
end Go.Proofs.Ytfomnmdjbdohgaa.P
