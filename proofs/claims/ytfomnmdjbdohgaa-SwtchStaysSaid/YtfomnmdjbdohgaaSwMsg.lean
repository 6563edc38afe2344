/- Messages: which are right, and which the same: the program's functions and the document's, as plain ones. -/
import Derived.Test.YtfomnmdjbdohgaaFlTab
import Derived.Test.YtfomnmdjbdohgaaFlSame
import Derived.Test.YtfomnmdjbdohgaaFlRef
import Derived.Test.YtfomnmdjbdohgaaHOps
import Derived.Lib.Bytes
import Derived.Laws.BitsLemmas
import Derived.Test.YtfomnmdjbdohgaaPx11
import Derived.Test.YtfomnmdjbdohgaaPx12
import Derived.Test.YtfomnmdjbdohgaaPx18
import Derived.Test.YtfomnmdjbdohgaaPx23
import Derived.Test.YtfomnmdjbdohgaaPx27
import Derived.Test.YtfomnmdjbdohgaaPx28
import Derived.Test.YtfomnmdjbdohgaaPx29
namespace Go.Proofs.Ytfomnmdjbdohgaa.P
set_option linter.unusedVariables false
set_option linter.unusedSimpArgs false
open Go.RowKit Go.Proofs.YtfomnmdjbdohgaaW.PrintWords Go.Proofs.YtfomnmdjbdohgaaW.PrintLast Go.Proofs.YtfomnmdjbdohgaaW.PrintMore
abbrev Ms := S32
def noRule (r : Ru) : Bool := (r.f0 == 0) && ((r.f1 == 0) && ((r.f2 == 0) && ((r.f3 == 0) && ((r.f4 == 0) && ((r.f5.length : Int) == 0)))))
def still (m : Ms) : Bool := (m.f3 == 0) && (!m.f4 && ((m.f5.length : Int) == 0))
def rightM (m : Ms) : Bool :=
 if m.f0 = 1 then rightR m.f2 && still m
 else if m.f0 = 2 then askedB m.f2.f1 && (((m.f2.f3 == 0) && ((m.f2.f4 == 0) && ((m.f2.f5.length : Int) == 0))) && still m)
 else if 3 ≤ m.f0 ∧ m.f0 ≤ 6 then noRule m.f2 && still m
 else if m.f0 = 7 then noRule m.f2 && (((m.f5.length : Int) == 0) && (decide (0 ≤ m.f3) && decide (m.f3 ≤ 63)))
 else if m.f0 = 8 ∨ m.f0 = 9 then noRule m.f2 && (!m.f4 && (decide (64 ≤ m.f3) && (decide (m.f3 ≤ 127) && decide ((m.f5.length : Int) ≤ 1500))))
 else false
inductive Kinds (m : Ms) : Prop where
 | put (h : m.f0 = 1) (hr : rightR m.f2 = true) (hs : m.f3 = 0 ∧ m.f4 = false ∧ m.f5 = [])
 | del (h : m.f0 = 2) (ha : askedB m.f2.f1 = true) (h3 : m.f2.f3 = 0) (h4 : m.f2.f4 = 0) (h5 : m.f2.f5 = []) (hs : m.f3 = 0 ∧ m.f4 = false ∧ m.f5 = [])
 | bare (h : 3 ≤ m.f0 ∧ m.f0 ≤ 6) (hr : m.f2 = ⟨0, 0, 0, 0, 0, []⟩) (hs : m.f3 = 0 ∧ m.f4 = false ∧ m.f5 = [])
 | link (h : m.f0 = 7) (hr : m.f2 = ⟨0, 0, 0, 0, 0, []⟩) (hp : 0 ≤ m.f3 ∧ m.f3 ≤ 63) (hf : m.f5 = [])
 | frame (h : m.f0 = 8 ∨ m.f0 = 9) (hr : m.f2 = ⟨0, 0, 0, 0, 0, []⟩) (hp : 64 ≤ m.f3 ∧ m.f3 ≤ 127) (hu : m.f4 = false) (hl : m.f5.length ≤ 1500)
theorem bnot_eq (b : Bool) : (b == false) = !b := by cases b <;> rfl
def bytesEq (a b : List Int) : Bool := (strOfNums a).toList == (strOfNums b).toList
theorem bytesEq_refl (a : List Int) : bytesEq a a = true := beq_self_eq_true _
theorem bytesEq_nil (a : List Int) : bytesEq a [] = ((a.length : Int) == 0) := by
 unfold bytesEq
 cases a with
 | nil => rw [beq_self_eq_true]; rfl
 | cons x t =>
  have h : (strOfNums (x :: t)).toList.length = t.length + 1 := by rw [Lib.strOfNums_toList, Lib.bytesOf_length, List.length_cons]
  have h2 : (strOfNums []).toList.length = 0 := by rw [Lib.strOfNums_toList, Lib.bytesOf_length]; rfl
  rw [beq_eq_false_iff_ne.2 (fun e => by rw [e, h2] at h; omega), beq_eq_false_iff_ne.2 (by rw [List.length_cons]; omega)]
def sameMsg (m n : Ms) : Bool := (m.f0 == n.f0) && ((m.f1 == n.f1) && (sameB m.f2 n.f2 && ((m.f3 == n.f3) && ((m.f4 == n.f4) && bytesEq m.f5 n.f5))))
theorem msame_ok (m n : Ms) (hl : m.f2.f5.length ≤ 1000000) (k : Nat) (hk : m.f2.f5.length + 2 ≤ k) : ofmsg_Same.f k m.f0 m.f1 m.f2.f0 m.f2.f1 m.f2.f2 m.f2.f3 m.f2.f4 m.f2.f5 m.f3 m.f4 m.f5 n.f0 n.f1 n.f2.f0 n.f2.f1 n.f2.f2 n.f2.f3 n.f2.f4 n.f2.f5 n.f3 n.f4 n.f5 = some (sameMsg m n) := by
 unfold ofmsg_Same.f sameMsg
 by_cases h0 : m.f0 = n.f0
 ·rw [if_pos h0, beq_iff_eq.2 h0]
  by_cases h1 : m.f1 = n.f1
  ·rw [if_pos h1, beq_iff_eq.2 h1, same_ok m.f2 n.f2 hl k hk, fbs]
   cases sameB m.f2 n.f2 with
   | false => rfl
   | true =>
    rw [if_pos rfl]
    by_cases h3 : m.f3 = n.f3
    ·rw [if_pos h3, beq_iff_eq.2 h3]
     cases m.f4 == n.f4 with
     | false => rfl
     | true => rfl
    ·rw [if_neg h3, beq_eq_false_iff_ne.2 h3]; rfl
  ·rw [if_neg h1, beq_eq_false_iff_ne.2 h1]; rfl
 ·rw [if_neg h0, beq_eq_false_iff_ne.2 h0]; rfl
theorem outsB_refl : ∀ l : List Ot, outsB l l = true
 | [] => rfl
 | a :: l => by rw [outsB, beq_self_eq_true, beq_self_eq_true, outsB_refl l]; rfl
theorem sameB_refl (r : Ru) : sameB r r = true := by
 unfold sameB
 rw [outsB_refl]
 simp
theorem sameB_zero (r : Ru) : sameB r ⟨0, 0, 0, 0, 0, []⟩ = noRule r := by
 obtain ⟨a, b, c, d, e, f⟩ := r
 unfold sameB noRule
 cases f <;> simp [outsB]
theorem mright_ok (m : Ms) (hl : m.f2.f5.length ≤ 1000000) (k : Nat) (hk : m.f2.f5.length + 2 ≤ k) : ofmsg_Right.f k m.f0 m.f1 m.f2.f0 m.f2.f1 m.f2.f2 m.f2.f3 m.f2.f4 m.f2.f5 m.f3 m.f4 m.f5 = some (rightM m) := by
 unfold ofmsg_Right.f rightM
 have key := fun (n : Ms) => msame_ok m n hl k hk
 by_cases h1 : m.f0 = 1
 ·rw [if_pos h1, if_pos h1, right_ok m.f2 hl k hk, fbs]
  cases rightR m.f2 with
  | false => rfl
  | true =>
   rw [if_pos rfl, Bool.true_and]
   rw [key ⟨m.f0, m.f1, m.f2, 0, false, []⟩]
   unfold sameMsg still
   simp only [beq_self_eq_true, Bool.true_and, sameB_refl, bytesEq_nil, bnot_eq]
 rw [if_neg h1, if_neg h1]
 by_cases h2 : m.f0 = 2
 ·rw [if_pos h2, if_pos h2, isAsked_ok, fbs]
  cases askedB m.f2.f1 with
  | false => rfl
  | true =>
   rw [if_pos rfl, Bool.true_and]
   rw [key ⟨m.f0, m.f1, ⟨m.f2.f0, m.f2.f1, m.f2.f2, 0, 0, []⟩, 0, false, []⟩]
   unfold sameMsg still sameB
   simp only [beq_self_eq_true, Bool.true_and, bytesEq_nil, bnot_eq]
   have ho : ∀ l : List Ot, outsB l [] = true := fun l => by cases l <;> rfl
   rw [ho, Bool.and_true]
   rfl
 rw [if_neg h2, if_neg h2]
 by_cases h3 : 3 ≤ m.f0 ∧ m.f0 ≤ 6
 ·rw [if_pos h3, if_pos h3, key ⟨m.f0, m.f1, ⟨0, 0, 0, 0, 0, []⟩, 0, false, []⟩]
  unfold sameMsg still
  simp only [beq_self_eq_true, Bool.true_and, sameB_zero, bytesEq_nil, bnot_eq]
 rw [if_neg h3, if_neg h3]
 by_cases h7 : m.f0 = 7
 ·rw [if_pos h7, if_pos h7]
  by_cases hp : 0 ≤ m.f3 ∧ m.f3 < 64
  ·rw [if_pos hp, key ⟨m.f0, m.f1, ⟨0, 0, 0, 0, 0, []⟩, m.f3, m.f4, []⟩, decide_eq_true hp.1, decide_eq_true (show m.f3 ≤ 63 by omega)]
   unfold sameMsg
   simp only [beq_self_eq_true, Bool.true_and, sameB_zero, bytesEq_nil, Bool.and_true]
  ·rw [if_neg hp]
   congr 1
   by_cases h0 : 0 ≤ m.f3
   ·rw [decide_eq_false (show ¬ m.f3 ≤ 63 by omega)]; simp
   ·rw [decide_eq_false h0]; simp
 rw [if_neg h7, if_neg h7]
 by_cases h8 : 8 ≤ m.f0 ∧ m.f0 ≤ 9
 ·rw [if_pos h8, if_pos (show m.f0 = 8 ∨ m.f0 = 9 by omega)]
  by_cases hp : (64 ≤ m.f3 ∧ m.f3 < 128) ∧ (m.f5.length : Int) ≤ 1500
  ·rw [if_pos hp, key ⟨m.f0, m.f1, ⟨0, 0, 0, 0, 0, []⟩, m.f3, false, m.f5⟩, decide_eq_true hp.1.1, decide_eq_true (show m.f3 ≤ 127 by omega), decide_eq_true hp.2]
   unfold sameMsg
   simp only [beq_self_eq_true, Bool.true_and, sameB_zero, bytesEq_refl, Bool.and_true, bnot_eq]
  ·rw [if_neg hp]
   congr 1
   by_cases ha : 64 ≤ m.f3
   ·by_cases hb : m.f3 ≤ 127
    ·rw [decide_eq_false (show ¬ (m.f5.length : Int) ≤ 1500 by omega)]; simp
    ·rw [decide_eq_false hb]; simp
   ·rw [decide_eq_false ha]; simp
 ·rw [if_neg h8, if_neg (show ¬ (m.f0 = 8 ∨ m.f0 = 9) by omega)]
theorem rd_get (l : List Int) (k : Nat) (hk : k < l.length) : rd l (k : Int) = l[k]'hk := by
 unfold rd
 rw [Int.toNat_natCast, List.getD_eq_getElem?_getD, List.getElem?_eq_getElem hk, Option.getD_some]
theorem bsame_loop (a b : List Int) (hl : a.length ≤ 1000000) (he : a.length = b.length) : ∀ (d i k : Nat), i + d = a.length → d + 1 ≤ k → stolonref01_Same.l0 k a b (i : Int) = some (decide (a.drop i = b.drop i)) := by
 intro d
 induction d with
 | zero =>
  intro i k hi hk
  obtain ⟨k, rfl⟩ : ∃ j, k = j + 1 := ⟨k - 1, by omega⟩
  rw [stolonref01_Same.l0, if_neg (by omega), List.drop_of_length_le (by omega), List.drop_of_length_le (by omega)]
  rfl
 | succ d ih =>
  intro i k hi hk
  obtain ⟨k, rfl⟩ : ∃ j, k = j + 1 := ⟨k - 1, by omega⟩
  have h1 : i < a.length := by omega
  have h2 : i < b.length := by omega
  have := ih (i + 1) k (by omega) (by omega)
  rw [Int.natCast_add] at this
  rw [stolonref01_Same.l0, if_pos (by omega), if_pos (by omega), if_pos (by omega), rd_get a i h1, rd_get b i h2, fw64 (by omega), show ((i : Int) + 1) = (i : Int) + ((1 : Nat) : Int) from rfl, this, List.drop_eq_getElem_cons h1, List.drop_eq_getElem_cons h2]
  by_cases h : a[i]'h1 = b[i]'h2
  ·rw [if_pos h]
   congr 1
   rw [decide_eq_decide]
   exact ⟨fun e => by rw [h, e], fun e => (List.cons.inj e).2⟩
  ·rw [if_neg h, decide_eq_false (fun e => h (List.cons.inj e).1)]
theorem bsame_ok (a b : List Int) (hl : a.length ≤ 1000000) (k : Nat) (hk : a.length + 1 ≤ k) : stolonref01_Same.f k a b = some (decide (a = b)) := by
 unfold stolonref01_Same.f
 by_cases h : (a.length : Int) = (b.length : Int)
 ·rw [if_pos h]
  have := bsame_loop a b hl (by omega) a.length 0 k (by omega) hk
  rwa [show ((0 : Nat) : Int) = 0 from rfl, List.drop_zero, List.drop_zero] at this
 ·rw [if_neg h, decide_eq_false (fun e => h (by rw [e]))]
def sameRef (m n : Ms) : Bool := sameB m.f2 n.f2 && ((m.f0 == n.f0) && ((m.f1 == n.f1) && ((m.f3 == n.f3) && ((m.f4 == n.f4) && decide (m.f5 = n.f5)))))
theorem rmsame_ok (m n : Ms) (hl : m.f2.f5.length ≤ 1000000) (hf : m.f5.length ≤ 1000000) (k : Nat) (hk : m.f2.f5.length + 2 ≤ k) (hk2 : m.f5.length + 1 ≤ k) : stolonref16_Same.f k m.f0 m.f1 m.f2.f0 m.f2.f1 m.f2.f2 m.f2.f3 m.f2.f4 m.f2.f5 m.f3 m.f4 m.f5 n.f0 n.f1 n.f2.f0 n.f2.f1 n.f2.f2 n.f2.f3 n.f2.f4 n.f2.f5 n.f3 n.f4 n.f5 = some (sameRef m n) := by
 unfold stolonref16_Same.f sameRef
 rw [rsame_ok m.f2 n.f2 hl k hk, fbs]
 cases sameB m.f2 n.f2 with
 | false => rfl
 | true =>
  rw [if_pos rfl, Bool.true_and]
  by_cases h0 : m.f0 = n.f0
  ·rw [if_pos h0, beq_iff_eq.2 h0]
   by_cases h1 : m.f1 = n.f1
   ·rw [if_pos h1, beq_iff_eq.2 h1]
    by_cases h3 : m.f3 = n.f3
    ·rw [if_pos h3, beq_iff_eq.2 h3]
     cases m.f4 == n.f4 with
     | false => rfl
     | true => rw [if_pos rfl, bsame_ok _ _ hf k hk2]; rfl
    ·rw [if_neg h3, beq_eq_false_iff_ne.2 h3]; rfl
   ·rw [if_neg h1, beq_eq_false_iff_ne.2 h1]; rfl
  ·rw [if_neg h0, beq_eq_false_iff_ne.2 h0]; rfl
theorem outsB_eq : ∀ l m : List Ot, l.length = m.length → outsB l m = true → l = m
 | [], [], _, _ => rfl
 | a :: l, b :: m, hl, h => by
  rw [outsB] at h
  simp only [Bool.and_eq_true, beq_iff_eq] at h
  rw [outsB_eq l m (by simpa using hl) h.2]
  obtain ⟨p, q⟩ := a
  obtain ⟨p', q'⟩ := b
  simp only at h
  rw [h.1.1, h.1.2]
 | [], b :: m, hl, _ => by simp at hl
 | a :: l, [], hl, _ => by simp at hl
theorem sameB_eq {r s : Ru} (h : sameB r s = true) : r = s := by
 unfold sameB at h
 simp only [Bool.and_eq_true, beq_iff_eq] at h
 obtain ⟨h0, h1, h2, h3, h4, h5, h6⟩ := h
 have := outsB_eq _ _ (by omega) h6
 obtain ⟨a, b, c, d, e, f⟩ := r
 obtain ⟨a', b', c', d', e', f'⟩ := s
 simp only at h0 h1 h2 h3 h4 this
 rw [h0, h1, h2, h3, h4, this]
theorem sameRef_iff {m n : Ms} : sameRef m n = true ↔ m = n := by
 constructor
 ·intro h
  unfold sameRef at h
  simp only [Bool.and_eq_true, beq_iff_eq, decide_eq_true_eq] at h
  obtain ⟨h0, h1, h2, h3, h4, h5⟩ := h
  have h0 := sameB_eq h0
  obtain ⟨a, b, c, d, e, f⟩ := m
  obtain ⟨a', b', c', d', e', f'⟩ := n
  simp only at h0 h1 h2 h3 h4 h5
  rw [h0, h1, h2, h3, h4, h5]
 ·rintro rfl
  unfold sameRef
  rw [sameB_refl]
  simp
theorem rd_ms (l : List Ms) (k : Nat) (hk : k < l.length) : rd_T32 l (k : Int) = l[k]'hk := by
 unfold rd_T32
 rw [Int.toNat_natCast, List.getD_eq_getElem?_getD, List.getElem?_eq_getElem hk, Option.getD_some]
def tail7 (x5 : Bool) (m : Ms) : Bool := if m.f0 = 7 then x5 && (((m.f5.length : Int) == 0) && (decide (0 ≤ m.f3) && decide (m.f3 ≤ 63))) else if m.f0 = 8 ∨ m.f0 = 9 then x5 && (!m.f4 && (decide (64 ≤ m.f3) && (decide (m.f3 ≤ 127) && decide ((m.f5.length : Int) ≤ 1500)))) else false
theorem rr3 (k : Nat) (x5 x6 b : Bool) (m : Ms) : stolonref16_Right.j3 (k + 1) x5 x6 m.f0 b m.f0 m.f1 m.f2.f0 m.f2.f1 m.f2.f2 m.f2.f3 m.f2.f4 m.f2.f5 m.f3 m.f4 m.f5 = some (if b = true then x5 && x6 else tail7 x5 m) := by
 have fr : (if x5 = true then (if m.f4 = true then (some false) else (if m.f3 ≥ 64 then (if m.f3 ≤ 127 then (some (decide ((m.f5.length : Int) ≤ 1500))) else (some false)) else (some false))) else (some false)) = some (x5 && (!m.f4 && (decide (64 ≤ m.f3) && (decide (m.f3 ≤ 127) && decide ((m.f5.length : Int) ≤ 1500))))) := by
  cases x5 with
  | false => rfl
  | true =>
   cases m.f4 with
   | true => rfl
   | false =>
    rw [if_pos rfl, if_neg ff]
    by_cases h1 : m.f3 ≥ 64
    ·rw [if_pos h1, decide_eq_true (show 64 ≤ m.f3 from h1)]
     by_cases h2 : m.f3 ≤ 127
     ·rw [if_pos h2, decide_eq_true h2]; rfl
     ·rw [if_neg h2, decide_eq_false h2]; rfl
    ·rw [if_neg h1, decide_eq_false (show ¬ 64 ≤ m.f3 from h1)]; rfl
 rw [stolonref16_Right.j3]
 cases b with
 | true => rw [if_pos rfl, if_pos rfl]; cases x5 <;> rfl
 | false =>
  rw [if_neg ff, if_neg ff]
  unfold tail7
  by_cases h7 : m.f0 = 7
  ·rw [if_pos h7, if_pos h7]
   cases x5 with
   | false => rfl
   | true =>
    rw [if_pos rfl]
    by_cases h0 : (m.f5.length : Int) = 0
    ·rw [if_pos h0, beq_iff_eq.2 h0]
     by_cases h1 : m.f3 ≥ 0
     ·rw [if_pos h1, decide_eq_true (show 0 ≤ m.f3 from h1)]; rfl
     ·rw [if_neg h1, decide_eq_false (show ¬ 0 ≤ m.f3 from h1)]; rfl
    ·rw [if_neg h0, beq_eq_false_iff_ne.2 h0]; rfl
  rw [if_neg h7, if_neg h7]
  by_cases h8 : m.f0 = 8
  ·rw [if_pos h8, if_pos (Or.inl h8)]; exact fr
  rw [if_neg h8]
  by_cases h9 : m.f0 = 9
  ·rw [if_pos h9, if_pos (Or.inr h9)]; exact fr
  rw [if_neg h9, if_neg (fun h => h.elim h8 h9)]
theorem rr2 (k : Nat) (x4 x5 x6 : Bool) (m : Ms) (hp : 0 ≤ m.f2.f4) (hl : m.f2.f5.length ≤ 1000000) (hk : m.f2.f5.length + 3 ≤ k) : stolonref16_Right.j2 (k + 1) x4 x5 x6 m.f0 m.f1 m.f2.f0 m.f2.f1 m.f2.f2 m.f2.f3 m.f2.f4 m.f2.f5 m.f3 m.f4 m.f5 m.f2.f0 m.f2.f1 m.f2.f2 m.f2.f3 m.f2.f4 m.f2.f5 =
  some (if m.f0 = 1 then rightR m.f2 && x6 else if m.f0 = 2 then askedB m.f2.f1 && (x4 && x6) else if 3 ≤ m.f0 ∧ m.f0 ≤ 6 then x5 && x6 else tail7 x5 m) := by
 obtain ⟨k, rfl⟩ : ∃ j, k = j + 1 := ⟨k - 1, by omega⟩
 rw [stolonref16_Right.j2]
 by_cases h1 : m.f0 = 1
 ·rw [if_pos h1, if_pos h1, rright_ok m.f2 hp hl _ hk, fbs]
  cases rightR m.f2 <;> rfl
 rw [if_neg h1, if_neg h1]
 by_cases h2 : m.f0 = 2
 ·rw [if_pos h2, if_pos h2, asked_ok, fbs]
  cases askedB m.f2.f1 with
  | false => rfl
  | true => cases x4 <;> rfl
 rw [if_neg h2, if_neg h2]
 have go : ∀ b : Bool, (b = true ↔ (3 ≤ m.f0 ∧ m.f0 ≤ 6)) → some (if b = true then x5 && x6 else tail7 x5 m) = some (if 3 ≤ m.f0 ∧ m.f0 ≤ 6 then x5 && x6 else tail7 x5 m) := by
  intro b hb
  congr 1
  by_cases h : 3 ≤ m.f0 ∧ m.f0 ≤ 6
  ·rw [if_pos h, if_pos (hb.2 h)]
  ·rw [if_neg h, if_neg (fun e => h (hb.1 e))]
 by_cases h3 : m.f0 = 3
 ·rw [if_pos h3, rr3]; exact go _ (by rw [beq_iff_eq]; omega)
 rw [if_neg h3]
 by_cases h4 : m.f0 = 4
 ·rw [if_pos h4, rr3]; exact go _ (by rw [beq_iff_eq]; omega)
 rw [if_neg h4]
 by_cases h5 : m.f0 = 5
 ·rw [if_pos h5, rr3]; exact go _ (by rw [beq_iff_eq]; omega)
 rw [if_neg h5, rr3]
 exact go _ (by rw [beq_iff_eq]; omega)
theorem rright16_ok (m : Ms) (hp : 0 ≤ m.f2.f4) (hl : m.f2.f5.length ≤ 1000000) (k : Nat) (hk : m.f2.f5.length + 6 ≤ k) : stolonref16_Right.f k m.f0 m.f1 m.f2.f0 m.f2.f1 m.f2.f2 m.f2.f3 m.f2.f4 m.f2.f5 m.f3 m.f4 m.f5 = some (rightM m) := by
 obtain ⟨k, rfl⟩ : ∃ j, k = j + 1 + 1 + 1 := ⟨k - 3, by omega⟩
 let bare : Bool := (m.f2.f3 == 0) && ((m.f2.f4 == 0) && ((m.f2.f5.length : Int) == 0))
 have hno : (bare && ((m.f2.f0 == 0) && ((m.f2.f1 == 0) && (m.f2.f2 == 0)))) = noRule m.f2 := by
  show ((m.f2.f3 == 0) && ((m.f2.f4 == 0) && ((m.f2.f5.length : Int) == 0)) && ((m.f2.f0 == 0) && ((m.f2.f1 == 0) && (m.f2.f2 == 0)))) = noRule m.f2
  unfold noRule
  generalize (m.f2.f0 == 0) = a0
  generalize (m.f2.f1 == 0) = a1
  generalize (m.f2.f2 == 0) = a2
  generalize (m.f2.f3 == 0) = a3
  generalize (m.f2.f4 == 0) = a4
  generalize ((m.f2.f5.length : Int) == 0) = a5
  cases a0 <;> cases a1 <;> cases a2 <;> cases a3 <;> cases a4 <;> cases a5 <;> rfl
 have h2 := fun (x4 x5 x6 : Bool) => rr2 k x4 x5 x6 m hp hl (by omega)
 have h1 : ∀ x4 x5 : Bool, stolonref16_Right.j1 (k + 1 + 1) x4 x5 m.f0 m.f1 m.f2.f0 m.f2.f1 m.f2.f2 m.f2.f3 m.f2.f4 m.f2.f5 m.f3 m.f4 m.f5 m.f2.f0 m.f2.f1 m.f2.f2 m.f2.f3 m.f2.f4 m.f2.f5 = some (if m.f0 = 1 then rightR m.f2 && still m else if m.f0 = 2 then askedB m.f2.f1 && (x4 && still m) else if 3 ≤ m.f0 ∧ m.f0 ≤ 6 then x5 && still m else tail7 x5 m) := by
  intro x4 x5
  rw [stolonref16_Right.j1]
  by_cases e0 : m.f3 = 0
  ·rw [if_pos e0]
   cases hu : m.f4 with
   | true =>
    rw [if_pos rfl]
    have := h2 x4 x5 false
    rw [hu] at this
    rw [this, show still m = false by unfold still; rw [hu, beq_iff_eq.2 e0]; rfl]
   | false =>
    rw [if_neg ff]
    have := h2 x4 x5 ((m.f5.length : Int) == 0)
    rw [hu] at this
    rw [this, show still m = ((m.f5.length : Int) == 0) by unfold still; rw [hu, beq_iff_eq.2 e0]; rfl]
  ·rw [if_neg e0, h2, show still m = false by unfold still; rw [beq_eq_false_iff_ne.2 e0]; rfl]
 have h0 : stolonref16_Right.j0 (k + 1 + 1 + 1) bare m.f0 m.f1 m.f2.f0 m.f2.f1 m.f2.f2 m.f2.f3 m.f2.f4 m.f2.f5 m.f3 m.f4 m.f5 m.f2.f0 m.f2.f1 m.f2.f2 m.f2.f3 m.f2.f4 m.f2.f5 = some (rightM m) := by
  rw [stolonref16_Right.j0]
  have fin : some (if m.f0 = 1 then rightR m.f2 && still m else if m.f0 = 2 then askedB m.f2.f1 && (bare && still m) else if 3 ≤ m.f0 ∧ m.f0 ≤ 6 then (bare && ((m.f2.f0 == 0) && ((m.f2.f1 == 0) && (m.f2.f2 == 0)))) && still m else tail7 (bare && ((m.f2.f0 == 0) && ((m.f2.f1 == 0) && (m.f2.f2 == 0)))) m) = some (rightM m) := by
   rw [hno]
   unfold rightM tail7
   rfl
  rw [← fin]
  cases hb : bare with
  | false => rw [if_neg ff, h1]; rfl
  | true =>
   rw [if_pos rfl]
   by_cases e0 : m.f2.f0 = 0
   ·rw [if_pos e0, beq_iff_eq.2 e0]
    by_cases e1 : m.f2.f1 = 0
    ·rw [if_pos e1, beq_iff_eq.2 e1, h1]; rfl
    ·rw [if_neg e1, beq_eq_false_iff_ne.2 e1, h1]; rfl
   ·rw [if_neg e0, beq_eq_false_iff_ne.2 e0, h1]; rfl
 unfold stolonref16_Right.f
 by_cases e3 : m.f2.f3 = 0
 ·rw [if_pos e3]
  by_cases e4 : m.f2.f4 = 0
  ·rw [if_pos e4, ← h0, show bare = ((m.f2.f5.length : Int) == 0) by show ((m.f2.f3 == 0) && ((m.f2.f4 == 0) && ((m.f2.f5.length : Int) == 0))) = _; rw [beq_iff_eq.2 e3, beq_iff_eq.2 e4]; rfl]
  ·rw [if_neg e4, ← h0, show bare = false by show ((m.f2.f3 == 0) && ((m.f2.f4 == 0) && ((m.f2.f5.length : Int) == 0))) = _; rw [beq_eq_false_iff_ne.2 e4]; simp]
 ·rw [if_neg e3, ← h0, show bare = false by show ((m.f2.f3 == 0) && ((m.f2.f4 == 0) && ((m.f2.f5.length : Int) == 0))) = _; rw [beq_eq_false_iff_ne.2 e3]; rfl]
theorem msgs_loop (l : List Ms) (hl : l.length ≤ 1000000) (hs : ∀ m ∈ l, m.f2.f5.length ≤ 4000 ∧ m.f5.length ≤ 4000) : ∀ (d i k : Nat), i + d = l.length → d + 4010 ≤ k → stolonref16_Msgs.l0 k l l (i : Int) = some true := by
 intro d
 induction d with
 | zero =>
  intro i k hi hk
  obtain ⟨k, rfl⟩ : ∃ j, k = j + 1 := ⟨k - 1, by omega⟩
  rw [stolonref16_Msgs.l0, if_neg (by omega)]
 | succ d ih =>
  intro i k hi hk
  obtain ⟨k, rfl⟩ : ∃ j, k = j + 1 := ⟨k - 1, by omega⟩
  have h1 : i < l.length := by omega
  have h2 := hs _ (List.getElem_mem h1)
  have := ih (i + 1) k (by omega) (by omega)
  rw [Int.natCast_add] at this
  rw [stolonref16_Msgs.l0, if_pos (by omega), if_pos (by omega), if_pos (by omega), rd_ms l i h1, rmsame_ok _ _ (by omega) (by omega) k (by omega) (by omega), fbs, sameRef_iff.2 rfl, if_pos rfl, fw64 (by omega)]
  exact this
theorem msgs_refl (l : List Ms) (hl : l.length ≤ 1000000) (hs : ∀ m ∈ l, m.f2.f5.length ≤ 4000 ∧ m.f5.length ≤ 4000) (k : Nat) (hk : l.length + 4010 ≤ k) : stolonref16_Msgs.f k l l = some true := by
 unfold stolonref16_Msgs.f
 rw [if_pos rfl]
 exact msgs_loop l hl hs l.length 0 k (by omega) hk
end Go.Proofs.Ytfomnmdjbdohgaa.P
