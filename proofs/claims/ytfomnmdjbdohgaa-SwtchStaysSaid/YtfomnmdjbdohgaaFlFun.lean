/- Which rules are right, by the program and by the document, as plain functions. -/
import Derived.Test.YtfomnmdjbdohgaaPx18
import Derived.Test.YtfomnmdjbdohgaaPx3
import Derived.Test.YtfomnmdjbdohgaaPx4
namespace Go.Proofs.Ytfomnmdjbdohgaa.P
set_option linter.unusedVariables false
set_option linter.unusedSimpArgs false
open Go.RowKit Go.Proofs.YtfomnmdjbdohgaaW.PrintWords Go.Proofs.YtfomnmdjbdohgaaW.PrintLast Go.Proofs.YtfomnmdjbdohgaaW.PrintMore
abbrev Ru := S29
abbrev Ot := S74
theorem fw64 {x : Int} (h : -9223372036854775808 ≤ x ∧ x ≤ 9223372036854775807) : wrap64 x = x := by unfold wrap64; omega
theorem fbs {α β : Type} (a : α) (f : α → Option β) : (some a).bind f = f a := rfl
def okOuts : Int → List Ot → Bool
 | _, [] => true
 | last, o :: os => decide (last < o.f0) && (decide (o.f0 < 128) && ((o.f1 == decide (o.f0 ≥ 64)) && okOuts o.f0 os))
def askedB (d : Int) : Bool := decide (3758096640 ≤ d) && decide (d ≤ 4026531839)
def tagOk (tag inn push : Int) : Bool := if tag = 0 then decide (64 ≤ inn) && (decide (inn ≤ 127) && !(push == 0)) else decide (inn = -1) && (push == 0)
def rightR (r : Ru) : Bool := askedB r.f1 && (decide ((r.f5.length : Int) ≤ 128) && (okOuts (-1) r.f5 && tagOk r.f2 r.f3 r.f4))
theorem rd_ot (l : List Ot) (k : Nat) (hk : k < l.length) : rd_T74 l (k : Int) = l[k]'hk := by
 unfold rd_T74
 rw [Int.toNat_natCast, List.getD_eq_getElem?_getD, List.getElem?_eq_getElem hk, Option.getD_some]
theorem isAsked_ok (d : Int) : addr_IsAsked.f d = some (askedB d) := by
 unfold addr_IsAsked.f addr_IsGroup.f addr_IsLocal.f askedB
 simp only [fbs]
 by_cases h : d / 268435456 = 14
 ·rw [if_pos (beq_iff_eq.2 h)]
  congr 1
  by_cases h2 : d / 256 = 14680064
  ·rw [beq_iff_eq.2 h2, decide_eq_false (by omega)]
   rfl
  ·rw [beq_eq_false_iff_ne.2 h2, decide_eq_true (by omega), decide_eq_true (by omega)]
   rfl
 ·rw [if_neg (by rw [beq_iff_eq]; exact h)]
  congr 1
  by_cases h1 : 3758096640 ≤ d
  ·rw [decide_eq_false (show ¬ d ≤ 4026531839 by omega)]
   simp
  ·rw [decide_eq_false h1]
   rfl
theorem asked_ok (d : Int) : stolonref01_Asked.f d = some (askedB d) := by
 unfold stolonref01_Asked.f askedB
 by_cases h : d ≥ 3758096640
 ·rw [if_pos h, decide_eq_true (show 3758096640 ≤ d from h), Bool.true_and]
 ·rw [if_neg h, decide_eq_false (show ¬ 3758096640 ≤ d from h)]
  rfl
theorem access_ok (n : Int) : flow_access.f n = some (decide (64 ≤ n) && decide (n ≤ 127)) := by
 unfold flow_access.f
 by_cases h : n ≥ 64
 ·rw [if_pos h, decide_eq_true (show 64 ≤ n from h), Bool.true_and]
  congr 1
  rw [decide_eq_decide]
  omega
 ·rw [if_neg h, decide_eq_false (show ¬ 64 ≤ n from h)]
  rfl
theorem right_end (k : Nat) (a0 a1 a2 a3 a4 : Int) (l5 : List Ot) : (if a3 = (-1) then (flow_Right.j1 (k + 1) (a4 == 0) a0 a1 a2 a3 a4 l5) else (flow_Right.j1 (k + 1) false a0 a1 a2 a3 a4 l5)) = some (askedB a1 && (decide ((l5.length : Int) ≤ 128) && tagOk a2 a3 a4)) := by
 have hj : ∀ b, flow_Right.j1 (k + 1) b a0 a1 a2 a3 a4 l5 = some (askedB a1 && (decide ((l5.length : Int) ≤ 128) && (if a2 = 0 then decide (64 ≤ a3) && (decide (a3 ≤ 127) && !(a4 == 0)) else b))) := by
  intro b
  rw [flow_Right.j1]
  by_cases h : a2 = 0
  ·rw [if_pos h, if_pos h, access_ok, isAsked_ok]
   simp only [fbs]
   cases askedB a1 <;> by_cases hl : (l5.length : Int) ≤ 128 <;> by_cases h1 : 64 ≤ a3 <;> by_cases h2 : a3 ≤ 127 <;> simp [hl, h1, h2] <;> rfl
  ·rw [if_neg h, if_neg h, isAsked_ok]
   simp only [fbs]
   cases askedB a1 <;> by_cases hl : (l5.length : Int) ≤ 128 <;> simp [hl]
 rw [hj, hj]
 unfold tagOk
 by_cases h : a2 = 0
 ·simp only [if_pos h]
  split <;> rfl
 ·simp only [if_neg h]
  by_cases h3 : a3 = -1
  ·rw [if_pos h3, decide_eq_true h3, Bool.true_and]
  ·rw [if_neg h3, decide_eq_false h3, Bool.false_and]
theorem right_loop (l : List Ot) (hl : l.length ≤ 1000000) (a0 a1 a2 a3 a4 : Int) (l5 : List Ot) : ∀ (d i k : Nat) (last : Int), i + d = l.length → d + 2 ≤ k →
  flow_Right.l0 k last l (l.length : Int) (i : Int) a0 a1 a2 a3 a4 l5 = some (okOuts last (l.drop i) && (askedB a1 && (decide ((l5.length : Int) ≤ 128) && tagOk a2 a3 a4))) := by
 intro d
 induction d with
 | zero =>
  intro i k last hi hk
  obtain ⟨k, rfl⟩ : ∃ j, k = j + 2 := ⟨k - 2, by omega⟩
  rw [flow_Right.l0, if_neg (by omega), right_end, List.drop_of_length_le (by omega)]
  rfl
 | succ d ih =>
  intro i k last hi hk
  obtain ⟨k, rfl⟩ : ∃ j, k = j + 1 := ⟨k - 1, by omega⟩
  have hlt : i < l.length := by omega
  rw [flow_Right.l0, if_pos (by omega), if_pos (by omega), if_pos (by omega), rd_ot l i hlt, List.drop_eq_getElem_cons hlt, okOuts]
  generalize l[i]'hlt = o
  by_cases h1 : o.f0 ≤ last
  ·rw [if_pos h1, decide_eq_false (show ¬ last < o.f0 by omega)]
   rfl
  ·rw [if_neg h1, decide_eq_true (show last < o.f0 by omega), Bool.true_and]
   by_cases h2 : o.f0 ≥ 128
   ·rw [if_pos h2, decide_eq_false (show ¬ o.f0 < 128 by omega)]
    rfl
   ·rw [if_neg h2, decide_eq_true (show o.f0 < 128 by omega), Bool.true_and, access_ok]
    simp only [fbs]
    have ha : (decide (64 ≤ o.f0) && decide (o.f0 ≤ 127)) = decide (o.f0 ≥ 64) := by
     rw [decide_eq_true (show o.f0 ≤ 127 by omega), Bool.and_true]
    rw [ha]
    by_cases h3 : o.f1 = decide (o.f0 ≥ 64)
    ·rw [if_neg (by rw [bne_iff_ne]; exact fun e => e h3), beq_iff_eq.2 h3, Bool.true_and, fw64 (by omega)]
     have := ih (i + 1) k o.f0 (by omega) (by omega)
     rw [Int.natCast_add] at this
     exact this
    ·rw [if_pos (bne_iff_ne.2 h3), beq_eq_false_iff_ne.2 h3]
     rfl
theorem right_ok (r : Ru) (hl : r.f5.length ≤ 1000000) (k : Nat) (hk : r.f5.length + 2 ≤ k) : flow_Right.f k r.f0 r.f1 r.f2 r.f3 r.f4 r.f5 = some (rightR r) := by
 unfold flow_Right.f
 have := right_loop r.f5 hl r.f0 r.f1 r.f2 r.f3 r.f4 r.f5 r.f5.length 0 k (-1) (by omega) (by omega)
 rw [show ((0 : Nat) : Int) = 0 from rfl, List.drop_zero] at this
 rw [this]
 unfold rightR
 congr 1
 cases okOuts (-1) r.f5 <;> cases askedB r.f1 <;> cases decide ((r.f5.length : Int) ≤ 128) <;> rfl
theorem rright_loop (l : List Ot) (hl : l.length ≤ 1000000) (a0 a1 a2 a3 a4 : Int) (hp : 0 ≤ a4) : ∀ (d i k : Nat) (last : Int), i + d = l.length → d + 1 ≤ k → -1 ≤ last → (i = 0 → last = -1) → (0 < i → last = (rd_T74 l ((i - 1 : Nat) : Int)).f0) →
  stolonref15_Right.l0 k (i : Int) a0 a1 a2 a3 a4 l = some (okOuts last (l.drop i) && tagOk a2 a3 a4) := by
 intro d
 induction d with
 | zero =>
  intro i k last hi hk _ _ _
  obtain ⟨k, rfl⟩ : ∃ j, k = j + 1 := ⟨k - 1, by omega⟩
  rw [stolonref15_Right.l0, if_neg (by omega), List.drop_of_length_le (by omega)]
  show _ = some (true && tagOk a2 a3 a4)
  rw [Bool.true_and]
  unfold tagOk
  by_cases h : a2 = 0
  ·rw [if_pos h, if_pos h]
   by_cases h1 : a3 ≥ 64
   ·rw [if_pos h1, decide_eq_true (show 64 ≤ a3 from h1), Bool.true_and]
    by_cases h2 : a3 ≤ 127
    ·rw [if_pos h2, decide_eq_true h2, Bool.true_and]
     congr 1
     by_cases h4 : a4 = 0
     ·subst h4; rfl
     ·rw [decide_eq_true (by omega), beq_eq_false_iff_ne.2 h4]; rfl
    ·rw [if_neg h2, decide_eq_false h2]; rfl
   ·rw [if_neg h1, decide_eq_false (show ¬ 64 ≤ a3 from h1)]; rfl
  ·rw [if_neg h, if_neg h]
   by_cases h3 : a3 = -1
   ·rw [if_pos h3, decide_eq_true h3, Bool.true_and]
   ·rw [if_neg h3, decide_eq_false h3]; rfl
 | succ d ih =>
  intro i k last hi hk hm h0 h1
  obtain ⟨k, rfl⟩ : ∃ j, k = j + 1 := ⟨k - 1, by omega⟩
  have hlt : i < l.length := by omega
  have hnext : ∀ (o : Ot), o = l[i]'hlt → -1 ≤ o.f0 → stolonref15_Right.l0 k (wrap64 ((i : Int) + 1)) a0 a1 a2 a3 a4 l = some (okOuts o.f0 (l.drop (i + 1)) && tagOk a2 a3 a4) := by
   intro o ho hge
   rw [fw64 (by omega)]
   have := ih (i + 1) k o.f0 (by omega) (by omega) hge (fun e => by omega) (fun _ => by rw [ho, ← rd_ot l i hlt]; rfl)
   rw [Int.natCast_add] at this
   exact this
  rw [stolonref15_Right.l0, if_pos (by omega), if_pos (by omega), rd_ot l i hlt, List.drop_eq_getElem_cons hlt, okOuts]
  generalize ho : l[i]'hlt = o at hnext ⊢
  by_cases h2 : o.f0 < 0
  ·rw [if_pos h2, decide_eq_false (show ¬ last < o.f0 by omega)]; rfl
  ·rw [if_neg h2]
   by_cases h3 : o.f0 > 127
   ·rw [if_pos h3, decide_eq_false (show ¬ o.f0 < 128 by omega)]
    simp
   ·rw [if_neg h3, decide_eq_true (show o.f0 < 128 by omega)]
    by_cases h4 : o.f1 = decide (o.f0 ≥ 64)
    ·rw [if_neg (by rw [bne_iff_ne]; exact fun e => e h4), beq_iff_eq.2 h4]
     by_cases h5 : (i : Int) > 0
     ·have hi0 : 0 < i := by omega
      have hw : wrap64 ((i : Int) - 1) = ((i - 1 : Nat) : Int) := by rw [fw64 (by omega)]; omega
      rw [if_pos h5, hw, if_pos (by omega), if_pos (by omega), ← h1 hi0]
      by_cases h6 : last ≥ o.f0
      ·rw [if_pos h6, decide_eq_false (show ¬ last < o.f0 by omega)]; rfl
      ·rw [if_neg h6, decide_eq_true (show last < o.f0 by omega), hnext o rfl (by omega)]
       rfl
     ·rw [if_neg h5, h0 (by omega), decide_eq_true (show (-1 : Int) < o.f0 by omega), hnext o rfl (by omega)]
      rfl
    ·rw [if_pos (bne_iff_ne.2 h4), beq_eq_false_iff_ne.2 h4]
     simp
theorem rright_ok (r : Ru) (hp : 0 ≤ r.f4) (hl : r.f5.length ≤ 1000000) (k : Nat) (hk : r.f5.length + 3 ≤ k) : stolonref15_Right.f k r.f0 r.f1 r.f2 r.f3 r.f4 r.f5 = some (rightR r) := by
 obtain ⟨k, rfl⟩ : ∃ j, k = j + 1 := ⟨k - 1, by omega⟩
 unfold stolonref15_Right.f
 rw [asked_ok]
 simp only [fbs]
 unfold rightR
 cases askedB r.f1 with
 | false => rfl
 | true =>
  rw [if_pos rfl, stolonref15_Right.j0]
  by_cases h : (r.f5.length : Int) > 128
  ·rw [decide_eq_true h, if_pos rfl, decide_eq_false (show ¬ (r.f5.length : Int) ≤ 128 by omega)]; rfl
  ·rw [decide_eq_false h, if_neg (by simp), decide_eq_true (show (r.f5.length : Int) ≤ 128 by omega)]
   have := rright_loop r.f5 hl r.f0 r.f1 r.f2 r.f3 r.f4 hp r.f5.length 0 k (-1) (by omega) (by omega) (by omega) (fun _ => rfl) (fun h => by omega)
   rw [show ((0 : Nat) : Int) = 0 from rfl, List.drop_zero] at this
   rw [this]
   rfl
end Go.Proofs.Ytfomnmdjbdohgaa.P
