/- Whether two messages are the same, which are right, and their bytes: the program's functions as plain ones. -/
import Derived.Test.YtboonfidioombaaOfSplit
import Derived.Test.YtboonfidioombaaFlSame
import Derived.Lib.Bytes
import Derived.Laws.BitsLemmas
import Derived.Test.YtboonfidioombaaPx11
import Derived.Test.YtboonfidioombaaPx12
import Derived.Test.YtboonfidioombaaPx13
import Derived.Test.YtboonfidioombaaPx14
import Derived.Test.YtboonfidioombaaPx6
import Derived.Test.YtboonfidioombaaPx9
namespace Go.Proofs.Ytboonfidioombaa.P
set_option linter.unusedVariables false
set_option linter.unusedSimpArgs false
open Go.RowKit Go.Proofs.YtboonfidioombaaW.PrintWords Go.Proofs.YtboonfidioombaaW.PrintLast Go.Proofs.YtboonfidioombaaW.PrintMore
theorem bnot_eq (b : Bool) : (b == false) = !b := by cases b <;> rfl
def bytesEq (a b : List Int) : Bool := (strOfNums a).toList == (strOfNums b).toList
theorem bytesEq_refl (a : List Int) : bytesEq a a = true := beq_self_eq_true _
theorem bytesEq_nil (a : List Int) : bytesEq a [] = ((a.length : Int) == 0) := by
 unfold bytesEq
 cases a with
 | nil => rw [beq_self_eq_true]; rfl
 | cons x t =>
  have h : (strOfNums (x :: t)).toList.length = t.length + 1 := by rw [Lib.strOfNums_toList, Lib.bytesOf_length, List.length_cons]
  have h2 : (strOfNums []).toList.length = 0 := by rw [Lib.strOfNums_toList, Lib.bytesOf_length]; rfl
  rw [beq_eq_false_iff_ne.2 (fun e => by rw [e, h2] at h; omega), beq_eq_false_iff_ne.2 (by rw [List.length_cons]; omega)]
def sameMsg (m n : Ms) : Bool := (m.f0 == n.f0) && ((m.f1 == n.f1) && (sameB m.f2 n.f2 && ((m.f3 == n.f3) && ((m.f4 == n.f4) && bytesEq m.f5 n.f5))))
theorem msame_ok (m n : Ms) (hl : m.f2.f5.length ≤ 1000000) (k : Nat) (hk : m.f2.f5.length + 2 ≤ k) : ofmsg_Same.f k m.f0 m.f1 m.f2.f0 m.f2.f1 m.f2.f2 m.f2.f3 m.f2.f4 m.f2.f5 m.f3 m.f4 m.f5 n.f0 n.f1 n.f2.f0 n.f2.f1 n.f2.f2 n.f2.f3 n.f2.f4 n.f2.f5 n.f3 n.f4 n.f5 = some (sameMsg m n) := by
 unfold ofmsg_Same.f sameMsg
 by_cases h0 : m.f0 = n.f0
 ·rw [if_pos h0, beq_iff_eq.2 h0]
  by_cases h1 : m.f1 = n.f1
  ·rw [if_pos h1, beq_iff_eq.2 h1, same_ok m.f2 n.f2 hl k hk, fbs]
   cases sameB m.f2 n.f2 with
   | false => rfl
   | true =>
    rw [if_pos rfl]
    by_cases h3 : m.f3 = n.f3
    ·rw [if_pos h3, beq_iff_eq.2 h3]
     cases m.f4 == n.f4 with
     | false => rfl
     | true => rfl
    ·rw [if_neg h3, beq_eq_false_iff_ne.2 h3]; rfl
  ·rw [if_neg h1, beq_eq_false_iff_ne.2 h1]; rfl
 ·rw [if_neg h0, beq_eq_false_iff_ne.2 h0]; rfl
theorem outsB_refl : ∀ l : List Ot, outsB l l = true
 | [] => rfl
 | a :: l => by rw [outsB, beq_self_eq_true, beq_self_eq_true, outsB_refl l]; rfl
theorem sameB_refl (r : Ru) : sameB r r = true := by
 unfold sameB
 rw [outsB_refl]
 simp
theorem sameB_zero (r : Ru) : sameB r ⟨0, 0, 0, 0, 0, []⟩ = noRule r := by
 obtain ⟨a, b, c, d, e, f⟩ := r
 unfold sameB noRule
 cases f <;> simp [outsB]
theorem mright_ok (m : Ms) (hl : m.f2.f5.length ≤ 1000000) (k : Nat) (hk : m.f2.f5.length + 2 ≤ k) : ofmsg_Right.f k m.f0 m.f1 m.f2.f0 m.f2.f1 m.f2.f2 m.f2.f3 m.f2.f4 m.f2.f5 m.f3 m.f4 m.f5 = some (rightM m) := by
 unfold ofmsg_Right.f rightM
 have key := fun (n : Ms) => msame_ok m n hl k hk
 by_cases h1 : m.f0 = 1
 ·rw [if_pos h1, if_pos h1, right_ok m.f2 hl k hk, fbs]
  cases rightR m.f2 with
  | false => rfl
  | true =>
   rw [if_pos rfl, Bool.true_and]
   rw [key ⟨m.f0, m.f1, m.f2, 0, false, []⟩]
   unfold sameMsg still
   simp only [beq_self_eq_true, Bool.true_and, sameB_refl, bytesEq_nil, bnot_eq]
 rw [if_neg h1, if_neg h1]
 by_cases h2 : m.f0 = 2
 ·rw [if_pos h2, if_pos h2, isAsked_ok, fbs]
  cases askedB m.f2.f1 with
  | false => rfl
  | true =>
   rw [if_pos rfl, Bool.true_and]
   rw [key ⟨m.f0, m.f1, ⟨m.f2.f0, m.f2.f1, m.f2.f2, 0, 0, []⟩, 0, false, []⟩]
   unfold sameMsg still sameB
   simp only [beq_self_eq_true, Bool.true_and, bytesEq_nil, bnot_eq]
   have ho : ∀ l : List Ot, outsB l [] = true := fun l => by cases l <;> rfl
   rw [ho, Bool.and_true]
   rfl
 rw [if_neg h2, if_neg h2]
 by_cases h3 : 3 ≤ m.f0 ∧ m.f0 ≤ 6
 ·rw [if_pos h3, if_pos h3, key ⟨m.f0, m.f1, ⟨0, 0, 0, 0, 0, []⟩, 0, false, []⟩]
  unfold sameMsg still
  simp only [beq_self_eq_true, Bool.true_and, sameB_zero, bytesEq_nil, bnot_eq]
 rw [if_neg h3, if_neg h3]
 by_cases h7 : m.f0 = 7
 ·rw [if_pos h7, if_pos h7]
  by_cases hp : 0 ≤ m.f3 ∧ m.f3 < 64
  ·rw [if_pos hp, key ⟨m.f0, m.f1, ⟨0, 0, 0, 0, 0, []⟩, m.f3, m.f4, []⟩, decide_eq_true hp.1, decide_eq_true (show m.f3 ≤ 63 by omega)]
   unfold sameMsg
   simp only [beq_self_eq_true, Bool.true_and, sameB_zero, bytesEq_nil, Bool.and_true]
  ·rw [if_neg hp]
   congr 1
   by_cases h0 : 0 ≤ m.f3
   ·rw [decide_eq_false (show ¬ m.f3 ≤ 63 by omega)]; simp
   ·rw [decide_eq_false h0]; simp
 rw [if_neg h7, if_neg h7]
 by_cases h8 : 8 ≤ m.f0 ∧ m.f0 ≤ 9
 ·rw [if_pos h8, if_pos (show m.f0 = 8 ∨ m.f0 = 9 by omega)]
  by_cases hp : (64 ≤ m.f3 ∧ m.f3 < 128) ∧ (m.f5.length : Int) ≤ 1500
  ·rw [if_pos hp, key ⟨m.f0, m.f1, ⟨0, 0, 0, 0, 0, []⟩, m.f3, false, m.f5⟩, decide_eq_true hp.1.1, decide_eq_true (show m.f3 ≤ 127 by omega), decide_eq_true hp.2]
   unfold sameMsg
   simp only [beq_self_eq_true, Bool.true_and, sameB_zero, bytesEq_refl, Bool.and_true, bnot_eq]
  ·rw [if_neg hp]
   congr 1
   by_cases ha : 64 ≤ m.f3
   ·by_cases hb : m.f3 ≤ 127
    ·rw [decide_eq_false (show ¬ (m.f5.length : Int) ≤ 1500 by omega)]; simp
    ·rw [decide_eq_false hb]; simp
   ·rw [decide_eq_false ha]; simp
 ·rw [if_neg h8, if_neg (show ¬ (m.f0 = 8 ∨ m.f0 = 9) by omega)]
theorem two_ok (n : Int) : ofmsg_two.f n = some (twoL n) := rfl
theorem and_mask {n : Int} (h0 : 0 ≤ n) (h1 : n ≤ 4294967295) : bits .and .u32 n 65535 = n % 65536 := by
 have := bits_mask .u32 32 (by decide) (fun n h0 h1 => by rw [IntKind.wrap_u32]; omega) 16 (by decide) n h0 (by omega)
 exact this
theorem and_mask64 {n : Int} (h0 : 0 ≤ n) (h1 : n ≤ 65535) : bits .and .i64 n 65535 = n := by
 have := bits_mask .i64 63 (by decide) (fun n h0 h1 => by rw [IntKind.wrap_i64]; omega) 16 (by decide) n h0 (by omega)
 rw [show (2 : Int) ^ 16 - 1 = 65535 from rfl, show (2 : Int) ^ 16 = 65536 from rfl] at this
 rw [this]
 omega
theorem concat_ok (l : List (List Int)) (h0 : l.length ≤ 1000) (h : l.flatten.length ≤ 100000000) : slices_Concat_byte_byte.f l = some l.flatten := if_pos ⟨h0, h⟩
theorem four_ok {n : Int} (h0 : 0 ≤ n) (h1 : n ≤ 4294967295) : ofmsg_four.f n = some (fourL n) := by
 unfold ofmsg_four.f
 rw [two_ok, fbs, two_ok, fbs, concat_ok _ (by simp) (by simp [twoL_len]), fbs, and_mask h0 h1, fw64 (x := n / 65536) (by omega), fw64 (x := n % 65536) (by omega)]
 congr 1
 simp only [List.flatten_cons, List.flatten_nil, List.append_nil]
 unfold twoL fourL
 simp only [List.cons_append, List.nil_append]
 rw [show n / 65536 / 256 % 256 = n / 16777216 % 256 by omega, show n % 65536 / 256 % 256 = n / 256 % 256 by omega, show n % 65536 % 256 = n % 256 by omega]
theorem ruled_loop (l : List Ot) (hl : l.length ≤ 1000000) (hb : byteL (l.map (·.f0))) : ∀ (d i k : Nat) (xs : List Int), i + d = l.length → d + 1 ≤ k → xs.length + d ≤ 10000000 → ofmsg_ruled.l0 k xs l (l.length : Int) (i : Int) = some (xs ++ (l.map (·.f0)).drop i) := by
 intro d
 induction d with
 | zero =>
  intro i k xs hi hk hx
  obtain ⟨k, rfl⟩ : ∃ j, k = j + 1 := ⟨k - 1, by omega⟩
  rw [ofmsg_ruled.l0, if_neg (by omega), List.drop_of_length_le (by rw [List.length_map]; omega), List.append_nil]
 | succ d ih =>
  intro i k xs hi hk hx
  obtain ⟨k, rfl⟩ : ∃ j, k = j + 1 := ⟨k - 1, by omega⟩
  have hlt : i < l.length := by omega
  have hlm : i < (l.map (·.f0)).length := by rw [List.length_map]; exact hlt
  have h0 := hb ((l[i]'hlt).f0) (List.mem_map.2 ⟨_, List.getElem_mem hlt, rfl⟩)
  rw [ofmsg_ruled.l0, if_pos (by omega), if_pos (by omega), if_pos (by omega), if_pos (by omega), rd_ot l i hlt, fw64 (by omega), show (l[i]'hlt).f0 % 256 = (l[i]'hlt).f0 by omega]
  have := ih (i + 1) k (xs ++ [(l[i]'hlt).f0]) (by omega) (by omega) (by simp; omega)
  rw [Int.natCast_add] at this
  rw [show ((i : Int) + 1) = (i : Int) + ((1 : Nat) : Int) from rfl, this, List.drop_eq_getElem_cons hlm, List.getElem_map, List.append_assoc]
  rfl
theorem encode_ok (m : Ms) (hw : WM m) (hl : m.f2.f5.length ≤ 1000000) (k : Nat) (hk : m.f2.f5.length + 4 ≤ k) : ofmsg_Encode.f k m.f0 m.f1 m.f2.f0 m.f2.f1 m.f2.f2 m.f2.f3 m.f2.f4 m.f2.f5 m.f3 m.f4 m.f5 = some (if rightM m = true then (encP m, 0) else ([], 1)) := by
 unfold ofmsg_Encode.f
 rw [mright_ok m hl k (by omega), fbs]
 cases hr : rightM m with
 | false => rfl
 | true =>
  have hil := inner_le hr
  have hi : ofmsg_inner.f k m.f0 m.f1 m.f2.f0 m.f2.f1 m.f2.f2 m.f2.f3 m.f2.f4 m.f2.f5 m.f3 m.f4 m.f5 = some (innerP m) := by
   have hj : ∀ xs : List Int, xs.length ≤ 2000 → ofmsg_inner.j0 k xs m.f0 m.f1 m.f2.f0 m.f2.f1 m.f2.f2 m.f2.f3 m.f2.f4 m.f2.f5 m.f3 m.f4 m.f5 = some (fourL m.f2.f0 ++ (fourL m.f2.f1 ++ (fourL m.f2.f2 ++ xs))) := by
    intro xs hx
    obtain ⟨k, rfl⟩ : ∃ j, k = j + 1 := ⟨k - 1, by omega⟩
    rw [ofmsg_inner.j0]
    unfold addr_Bytes.f
    rw [fbs, fbs, four_ok hw.tag.1 hw.tag.2, fbs, concat_ok _ (by simp) (by simp [fourL_len, show ∀ n, (bytes4 n).length = 4 from fun _ => rfl]; omega), fbs]
    simp only [List.flatten_cons, List.flatten_nil, List.append_nil]
    rfl
   unfold ofmsg_inner.f innerP
   cases right_kinds hr with
   | put h hr hs =>
    have hp := rightR_parts hr
    have hpl := hp.len
    have hin : bits .and .i64 m.f2.f3 65535 = inP m.f2.f3 := by
     by_cases h3 : m.f2.f3 = -1
     ·rw [h3]; decide
     ·have := hp.inn
      unfold inP at this ⊢
      rw [if_neg h3] at this ⊢
      exact and_mask64 this.1 this.2
    have hru : ofmsg_ruled.f k m.f2.f0 m.f2.f1 m.f2.f2 m.f2.f3 m.f2.f4 m.f2.f5 = some (twoL (inP m.f2.f3) ++ (fourL m.f2.f4 ++ (twoL m.f2.f5.length ++ m.f2.f5.map (·.f0)))) := by
     unfold ofmsg_ruled.f
     rw [two_ok, fbs, four_ok hw.push.1 hw.push.2, fbs, two_ok, fbs, concat_ok _ (by simp) (by simp [fourL_len, twoL_len]), fbs, hin]
     have := ruled_loop m.f2.f5 hl hp.bytes m.f2.f5.length 0 k [twoL (inP m.f2.f3), fourL m.f2.f4, twoL m.f2.f5.length].flatten (by omega) (by omega) (by simp [fourL_len, twoL_len]; omega)
     rw [show ((0 : Nat) : Int) = 0 from rfl, List.drop_zero] at this
     rw [this]
     simp only [List.flatten_cons, List.flatten_nil, List.append_nil, List.append_assoc]
    simp only [if_pos h]
    rw [hru, fbs, hj _ (by simp [fourL_len, twoL_len]; omega)]
   | del h ha h3 h4 h5 hs =>
    have n1 : ¬ m.f0 = 1 := by omega
    simp only [if_neg n1, if_pos h]
    rw [hj _ (by simp), List.append_nil]
   | bare h hr hs =>
    have n1 : ¬ m.f0 = 1 := by omega
    have n2 : ¬ m.f0 = 2 := by omega
    have n7 : ¬ m.f0 = 7 := by omega
    have n8 : ¬ m.f0 = 8 := by omega
    have n9 : ¬ m.f0 = 9 := by omega
    have n89 : ¬ (m.f0 = 8 ∨ m.f0 = 9) := by omega
    simp only [if_neg n1, if_neg n2, if_neg n7, if_neg n8, if_neg n9, if_neg n89]
   | link h hr hp hf =>
    have n1 : ¬ m.f0 = 1 := by omega
    have n2 : ¬ m.f0 = 2 := by omega
    simp only [if_neg n1, if_neg n2, if_pos h, show m.f3 % 256 = m.f3 by omega]
    cases m.f4 <;> rfl
   | frame h hr hp hu hl =>
    have n1 : ¬ m.f0 = 1 := by omega
    have n2 : ¬ m.f0 = 2 := by omega
    have n7 : ¬ m.f0 = 7 := by omega
    simp only [if_neg n1, if_neg n2, if_neg n7, if_pos h, show m.f3 % 256 = m.f3 by omega]
    have hlen : ([m.f3] : List Int).length + m.f5.length < 140737488355328 := by simp; omega
    rcases h with h | h
    ·rw [if_pos h, fbs, if_pos hlen]
     rfl
    ·rw [if_neg (by omega), if_pos h, fbs, if_pos hlen]
     rfl
  rw [if_pos rfl, if_pos rfl, hi, fbs, two_ok, fbs, four_ok hw.xid.1 hw.xid.2, fbs, concat_ok _ (by simp) (by simp [fourL_len, twoL_len]; omega), fbs, fw64 (by omega)]
  simp only [List.flatten_cons, List.flatten_nil, List.append_nil]
  rfl
end Go.Proofs.Ytboonfidioombaa.P
