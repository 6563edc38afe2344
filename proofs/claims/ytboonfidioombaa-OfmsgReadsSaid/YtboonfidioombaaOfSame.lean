/- Whether two messages are the same, which are right, and their bytes: the program's functions as plain ones. -/
import Derived.Test.YtboonfidioombaaOfSplit
import Derived.Test.YtboonfidioombaaFlSame
import Derived.Lib.Bytes
import Derived.Laws.BitsLemmas
import Derived.Test.YtboonfidioombaaPx11
import Derived.Test.YtboonfidioombaaPx12
import Derived.Test.YtboonfidioombaaPx13
import Derived.Test.YtboonfidioombaaPx14
import Derived.Test.YtboonfidioombaaPx6
import Derived.Test.YtboonfidioombaaPx9
namespace Go.Proofs.Ytboonfidioombaa.P
set_option linter.unusedVariables false
set_option linter.unusedSimpArgs false
open Go.RowKit Go.Proofs.YtboonfidioombaaW.PrintWords Go.Proofs.YtboonfidioombaaW.PrintLast Go.Proofs.YtboonfidioombaaW.PrintMore
theorem bnot_eq (b : Bool) : (b == false) = !b := by cases b <;> rfl
def bytesEq (a b : List Int) : Bool := (strOfNums a).toList == (strOfNums b).toList
theorem bytesEq_refl (a : List Int) : bytesEq a a = true := beq_self_eq_true _
theorem bytesEq_nil (a : List Int) : bytesEq a [] = ((a.length : Int) == 0) := by
 unfold bytesEq
 cases a with
 | nil => rw [beq_self_eq_true]; rfl
 | cons x t =>
  have h : (strOfNums (x :: t)).toList.length = t.length + 1 := by rw [Lib.strOfNums_toList, Lib.bytesOf_length, List.length_cons]
  have h2 : (strOfNums []).toList.length = 0 := by rw [Lib.strOfNums_toList, Lib.bytesOf_length]; rfl
  rw [beq_eq_false_iff_ne.2 (fun e => by rw [e, h2] at h; omega), beq_eq_false_iff_ne.2 (by rw [List.length_cons]; omega)]
def sameMsg (m n : Ms) : Bool := (m.f0 == n.f0) && ((m.f1 == n.f1) && (sameB m.f2 n.f2 && ((m.f3 == n.f3) && ((m.f4 == n.f4) && bytesEq m.f5 n.f5))))
theorem msame_ok (m n : Ms) (hl : m.f2.f5.length ≤ 1000000) (k : Nat) (hk : m.f2.f5.length + 2 ≤ k) : ofmsg_Same.f k m.f0 m.f1 m.f2.f0 m.f2.f1 m.f2.f2 m.f2.f3 m.f2.f4 m.f2.f5 m.f3 m.f4 m.f5 n.f0 n.f1 n.f2.f0 n.f2.f1 n.f2.f2 n.f2.f3 n.f2.f4 n.f2.f5 n.f3 n.f4 n.f5 = some (sameMsg m n) := by
 unfold ofmsg_Same.f sameMsg
 by_cases h0 : m.f0 = n.f0
 ·rw [if_pos h0, beq_iff_eq.2 h0]
  by_cases h1 : m.f1 = n.f1
  ·rw [if_pos h1, beq_iff_eq.2 h1, same_ok m.f2 n.f2 hl k hk, fbs]
   cases sameB m.f2 n.f2 with
   | false => rfl
   | true =>
    rw [if_pos rfl]
    by_cases h3 : m.f3 = n.f3
    ·rw [if_pos h3, beq_iff_eq.2 h3]
     cases m.f4 == n.f4 with
     | false => rfl
     | true => rfl
    ·rw [if_neg h3, beq_eq_false_iff_ne.2 h3]; rfl
  ·rw [if_neg h1, beq_eq_false_iff_ne.2 h1]; rfl
 ·rw [if_neg h0, beq_eq_false_iff_ne.2 h0]; rfl
theorem outsB_refl : ∀ l : List Ot, outsB l l = true
 | [] => rfl
 | a :: l => by rw [outsB, beq_self_eq_true, beq_self_eq_true, outsB_refl l]; rfl
theorem sameB_refl (r : Ru) : sameB r r = true := by
 unfold sameB
 rw [outsB_refl]
 simp
theorem sameB_zero (r : Ru) : sameB r ⟨0, 0, 0, 0, 0, []⟩ = noRule r := by
 obtain ⟨a, b, c, d, e, f⟩ := r
 unfold sameB noRule
 cases f <;> simp [outsB]
theorem mright_ok (m : Ms) (hl : m.f2.f5.length ≤ 1000000) (k : Nat) (hk : m.f2.f5.length + 2 ≤ k) : ofmsg_Right.f k m.f0 m.f1 m.f2.f0 m.f2.f1 m.f2.f2 m.f2.f3 m.f2.f4 m.f2.f5 m.f3 m.f4 m.f5 = some (rightM m) := by
 unfold ofmsg_Right.f rightM
 have key := fun (n : Ms) => msame_ok m n hl k hk
 by_cases h1 : m.f0 = 1
 ·rw [if_pos h1, if_pos h1, right_ok m.f2 hl k hk, fbs]
  cases rightR m.f2 with
  | false => rfl
  | true =>
   rw [if_pos rfl, Bool.true_and]
   rw [key ⟨m.f0, m.f1, m.f2, 0, false, []⟩]
   unfold sameMsg still
   simp only [beq_self_eq_true, Bool.true_and, sameB_refl, bytesEq_nil, bnot_eq]
 rw [if_neg h1, if_neg h1]
 by_cases h2 : m.f0 = 2
 ·rw [if_pos h2, if_pos h2, isAsked_ok, fbs]
  cases askedB m.f2.f1 with
  | false => rfl
  | true =>
   rw [if_pos rfl, Bool.true_and]
   rw [key ⟨m.f0, m.f1, ⟨m.f2.f0, m.f2.f1, m.f2.f2, 0, 0, []⟩, 0, false, []⟩]
   unfold sameMsg still sameB
   simp only [beq_self_eq_true, Bool.true_and, bytesEq_nil, bnot_eq]
   have ho : ∀ l : List Ot, outsB l [] = true := fun l => by cases l <;> rfl
   rw [ho, Bool.and_true]
   rfl
 rw [if_neg h2, if_neg h2]
 by_cases h3 : 3 ≤ m.f0 ∧ m.f0 ≤ 6
 ·rw [if_pos h3, if_pos h3, key ⟨m.f0, m.f1, ⟨0, 0, 0, 0, 0, []⟩, 0, false, []⟩]
  unfold sameMsg still
  simp only [beq_self_eq_true, Bool.true_and, sameB_zero, bytesEq_nil, bnot_eq]
 rw [if_neg h3, if_neg h3]
 by_cases h7 : m.f0 = 7
 ·rw [if_pos h7, if_pos h7]
  by_cases hp : 0 ≤ m.f3 ∧ m.f3 < 64
  ·rw [if_pos hp, key ⟨m.f0, m.f1, ⟨0, 0, 0, 0, 0, []⟩, m.f3, m.f4, []⟩, decide_eq_true hp.1, decide_eq_true (show m.f3 ≤ 63 by omega)]
   unfold sameMsg
   simp only [beq_self_eq_true, Bool.true_and, sameB_zero, bytesEq_nil, Bool.and_true]
  ·rw [if_neg hp]
   congr 1
   by_cases h0 : 0 ≤ m.f3
   ·rw [decide_eq_false (show ¬ m.f3 ≤ 63 by omega)]; simp
   ·rw [decide_eq_false h0]; simp
 rw [if_neg h7, if_neg h7]
 by_cases h8 : 8 ≤ m.f0 ∧ m.f0 ≤ 9
 ·rw [if_pos h8, if_pos (show m.f0 = 8 ∨ m.f0 = 9 by omega)]
  by_cases hp : (64 ≤ m.f3 ∧ m.f3 < 128) ∧ (m.f5.length : Int) ≤ 1500
  ·rw [if_pos hp, key ⟨m.f0, m.f1, ⟨0, 0, 0, 0, 0, []⟩, m.f3, false, m.f5⟩, decide_eq_true hp.1.1, decide_eq_true (show m.f3 ≤ 127 by omega), decide_eq_true hp.2]
   unfold sameMsg
   simp only [beq_self_eq_true, Bool.true_and, sameB_zero, bytesEq_refl, Bool.and_true, bnot_eq]
  ·rw [if_neg hp]
   congr 1
   by_cases ha : 64 ≤ m.f3
   ·by_cases hb : m.f3 ≤ 127
    ·rw [decide_eq_false (show ¬ (m.f5.length : Int) ≤ 1500 by omega)]; simp
    ·rw [decide_eq_false hb]; simp
   ·rw [decide_eq_false ha]; simp
 ·rw [if_neg h8, if_neg (show ¬ (m.f0 = 8 ∨ m.f0 = 9) by omega)]
end Go.Proofs.Ytboonfidioombaa.P
