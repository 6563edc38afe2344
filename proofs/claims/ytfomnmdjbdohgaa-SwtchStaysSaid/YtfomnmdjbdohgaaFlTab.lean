/- Tables: which rows are tables, what is laid, taken away, found and sent, as plain functions of rows. -/
import Derived.Test.YtfomnmdjbdohgaaFlOrd
import Derived.Test.YtfomnmdjbdohgaaPx18
import Derived.Test.YtfomnmdjbdohgaaPx19
import Derived.Test.YtfomnmdjbdohgaaPx20
import Derived.Test.YtfomnmdjbdohgaaPx26
import Derived.Test.YtfomnmdjbdohgaaPx27
import Derived.Test.YtfomnmdjbdohgaaPx34
import Derived.Test.YtfomnmdjbdohgaaPx35
import Derived.Test.YtfomnmdjbdohgaaPx7
namespace Go.Proofs.Ytfomnmdjbdohgaa.P
set_option linter.unusedVariables false
set_option linter.unusedSimpArgs false
open Go.RowKit Go.Proofs.YtfomnmdjbdohgaaW.PrintWords Go.Proofs.YtfomnmdjbdohgaaW.PrintLast Go.Proofs.YtfomnmdjbdohgaaW.PrintMore
theorem rless_f (a0 a1 a2 a3 a4 : Int) (l5 : List (S74)) (b0 b1 b2 b3 b4 : Int) (m5 : List (S74)) : stolonref15_less.f a0 a1 a2 a3 a4 l5 b0 b1 b2 b3 b4 m5 = some (ltK (a0, a1, a2) (b0, b1, b2)) := by
 unfold stolonref15_less.f ltK
 simp only
 by_cases h0 : a0 = b0
 ·subst h0
  by_cases h1 : a1 = b1
  ·subst h1; simp
  ·simp [h1]
 ·simp [h0]
def smallR (r : Ru) : Prop := r.f5.length ≤ 2000 ∧ 0 ≤ r.f4
def tabB : Option Key → List Ru → Bool
 | _, [] => true
 | p, x :: t => rightR x && ((match p with | none => true | some q => ltK q (keyR x)) && tabB (some (keyR x)) t)
theorem tabB_cons (p : Option Key) (x : Ru) (t : List Ru) : tabB p (x :: t) = (rightR x && ((match p with | none => true | some q => ltK q (keyR x)) && tabB (some (keyR x)) t)) := by cases p <;> rfl
theorem tabB_some (q : Key) : ∀ l, tabB (some q) l = true ↔ ((∀ x ∈ l, rightR x = true) ∧ (∀ x ∈ l, ltK q (keyR x) = true) ∧ riseK l = true)
 | [] => by simp [tabB, riseK]
 | x :: t => by
  rw [tabB, Bool.and_eq_true, Bool.and_eq_true, tabB_some (keyR x) t, riseK_iff, riseK_iff, List.pairwise_cons]
  constructor
  ·rintro ⟨h1, h2, h3, h4, h5⟩
   refine ⟨fun y hy => ?_, fun y hy => ?_, h4, h5⟩
   ·rcases List.mem_cons.1 hy with rfl | hy
    ·exact h1
    ·exact h3 y hy
   ·rcases List.mem_cons.1 hy with rfl | hy
    ·exact h2
    ·exact ltK_trans h2 (h4 y hy)
  ·rintro ⟨h1, h2, h3, h4⟩
   exact ⟨h1 x List.mem_cons_self, h2 x List.mem_cons_self, fun y hy => h1 y (List.mem_cons_of_mem _ hy), h3, h4⟩
theorem tabB_none : ∀ l, tabB none l = true ↔ ((∀ x ∈ l, rightR x = true) ∧ riseK l = true)
 | [] => by simp [tabB, riseK]
 | x :: t => by
  rw [tabB, Bool.and_eq_true, Bool.true_and, tabB_some (keyR x) t, riseK_iff, riseK_iff, List.pairwise_cons]
  constructor
  ·rintro ⟨h1, h3, h4, h5⟩
   refine ⟨fun y hy => ?_, h4, h5⟩
   rcases List.mem_cons.1 hy with rfl | hy
   ·exact h1
   ·exact h3 y hy
  ·rintro ⟨h1, h3, h4⟩
   exact ⟨h1 x List.mem_cons_self, fun y hy => h1 y (List.mem_cons_of_mem _ hy), h3, h4⟩
theorem rtable_loop (l : List Ru) (hl : l.length ≤ 1000000) (hs : ∀ r ∈ l, smallR r) : ∀ (d i k : Nat) (p : Option Key), i + d = l.length → d + 2010 ≤ k → (i = 0 → p = none) → (0 < i → p = some (keyR (rd_T29 l ((i - 1 : Nat) : Int)))) →
  stolonref15_Table.l0 k l (i : Int) = some (tabB p (l.drop i)) := by
 intro d
 induction d with
 | zero =>
  intro i k p hi hk _ _
  obtain ⟨k, rfl⟩ : ∃ j, k = j + 1 := ⟨k - 1, by omega⟩
  rw [stolonref15_Table.l0, if_neg (by omega), List.drop_of_length_le (by omega)]
  cases p <;> rfl
 | succ d ih =>
  intro i k p hi hk h0 h1
  obtain ⟨k, rfl⟩ : ∃ j, k = j + 1 := ⟨k - 1, by omega⟩
  have hlt : i < l.length := by omega
  have hsm := hs _ (List.getElem_mem hlt)
  have hnext := ih (i + 1) k (some (keyR (l[i]'hlt))) (by omega) (by omega) (fun e => by omega) (fun _ => by rw [← rd_ru l i hlt]; rfl)
  rw [Int.natCast_add, show ((1 : Nat) : Int) = 1 from rfl] at hnext
  rw [stolonref15_Table.l0, if_pos (by omega), if_pos (by omega), rd_ru l i hlt, rright_ok _ hsm.2 (by have := hsm.1; omega) k (by have := hsm.1; omega), List.drop_eq_getElem_cons hlt, tabB_cons]
  simp only [fbs]
  cases rightR (l[i]'hlt) with
  | false => rfl
  | true =>
   rw [if_pos rfl, Bool.true_and]
   by_cases h5 : (i : Int) > 0
   ·have hi0 : 0 < i := by omega
    have hw : wrap64 ((i : Int) - 1) = ((i - 1 : Nat) : Int) := by rw [fw64 (by omega)]; omega
    rw [if_pos h5, hw, if_pos (by omega), if_pos (by omega), rless_f, h1 hi0]
    simp only [fbs]
    show (if ltK (keyR (rd_T29 l ((i - 1 : Nat) : Int))) (keyR (l[i]'hlt)) = true then _ else _) = _
    cases ltK (keyR (rd_T29 l ((i - 1 : Nat) : Int))) (keyR (l[i]'hlt)) with
    | false => rfl
    | true => rw [if_pos rfl, fw64 (by omega), hnext]; rfl
   ·rw [if_neg h5, h0 (by omega), fw64 (by omega), hnext]
    rfl
theorem rtable_ok (l : List Ru) (hl : l.length ≤ 1000000) (hs : ∀ r ∈ l, smallR r) (k : Nat) (hk : l.length + 2010 ≤ k) : stolonref15_Table.f k l = some (tabB none l) := by
 unfold stolonref15_Table.f
 have := rtable_loop l hl hs l.length 0 k none (by omega) (by omega) (fun _ => rfl) (fun h => by omega)
 rwa [show ((0 : Nat) : Int) = 0 from rfl, List.drop_zero] at this
theorem few_loop (l : List Ru) (hl : l.length ≤ 2000) (hw : ∀ r ∈ l, r.f5.length ≤ 9000000000000) : ∀ (d i k : Nat) (x : Int), i + d = l.length → d + 1 ≤ k → 0 ≤ x → x ≤ 10000000000000 →
  ∃ b, stolonref15_Few.l0 k l x (i : Int) = some b ∧ (b = true → x ≤ 2000 ∧ ∀ r ∈ l.drop i, r.f5.length ≤ 2000) := by
 intro d
 induction d with
 | zero =>
  intro i k x hi hk h0 hx
  obtain ⟨k, rfl⟩ : ∃ j, k = j + 1 := ⟨k - 1, by omega⟩
  rw [stolonref15_Few.l0, if_neg (by omega), List.drop_of_length_le (by omega)]
  exact ⟨_, rfl, fun h => ⟨of_decide_eq_true h, by simp⟩⟩
 | succ d ih =>
  intro i k x hi hk h0 hx
  obtain ⟨k, rfl⟩ : ∃ j, k = j + 1 := ⟨k - 1, by omega⟩
  have hlt : i < l.length := by omega
  rw [stolonref15_Few.l0, if_pos (by omega)]
  by_cases h1 : x ≤ 2000
  ·rw [if_pos h1, if_pos (by omega), rd_ru l i hlt]
   have hb := hw _ (List.getElem_mem hlt)
   rw [fw64 (by omega), fw64 (by omega)]
   obtain ⟨b, h2, h3⟩ := ih (i + 1) k (x + ((l[i]'hlt).f5.length : Int)) (by omega) (by omega) (by omega) (by omega)
   rw [Int.natCast_add] at h2
   refine ⟨b, h2, fun h => ⟨h1, fun r hr => ?_⟩⟩
   rw [List.drop_eq_getElem_cons hlt] at hr
   rcases List.mem_cons.1 hr with rfl | hr
   ·have := (h3 h).1
    omega
   ·exact (h3 h).2 r hr
  ·rw [if_neg h1]
   exact ⟨_, rfl, fun h => absurd (of_decide_eq_true h) h1⟩
theorem few_ok (l : List Ru) (hm : l.length ≤ 9000000000000) (hw : ∀ r ∈ l, r.f5.length ≤ 9000000000000) (k : Nat) (hk : 2010 ≤ k) : ∃ b, stolonref15_Few.f k l = some b ∧ (b = true → l.length ≤ 2000 ∧ ∀ r ∈ l, r.f5.length ≤ 2000) := by
 unfold stolonref15_Few.f
 rcases Nat.lt_or_ge 2000 l.length with h | h
 ·obtain ⟨k, rfl⟩ : ∃ j, k = j + 1 := ⟨k - 1, by omega⟩
  rw [stolonref15_Few.l0, if_pos (by omega), if_neg (by omega)]
  exact ⟨_, rfl, fun h2 => absurd (of_decide_eq_true h2) (by omega)⟩
 ·obtain ⟨b, h1, h2⟩ := few_loop l h hw l.length 0 k l.length (by omega) (by omega) (by omega) (by omega)
  refine ⟨b, h1, fun hb => ⟨h, ?_⟩⟩
  have := (h2 hb).2
  rwa [List.drop_zero] at this
theorem same_loop (l : List Ot) (hl : l.length ≤ 1000000) (a0 a1 a2 a3 a4 b0 b1 b2 b3 b4 : Int) : ∀ (d i k : Nat), i + d = l.length → d + 1 ≤ k → stolonref15_Same.l0 k (i : Int) a0 a1 a2 a3 a4 l b0 b1 b2 b3 b4 l = some true := by
 intro d
 induction d with
 | zero =>
  intro i k hi hk
  obtain ⟨k, rfl⟩ : ∃ j, k = j + 1 := ⟨k - 1, by omega⟩
  rw [stolonref15_Same.l0, if_neg (by omega)]
 | succ d ih =>
  intro i k hi hk
  obtain ⟨k, rfl⟩ : ∃ j, k = j + 1 := ⟨k - 1, by omega⟩
  have := ih (i + 1) k (by omega) (by omega)
  rw [Int.natCast_add] at this
  rw [stolonref15_Same.l0, if_pos (by omega), if_pos (by omega), if_pos (by omega), if_neg (by simp), fw64 (by omega)]
  exact this
theorem same_refl (r : Ru) (hl : r.f5.length ≤ 1000000) (k : Nat) (hk : r.f5.length + 2 ≤ k) : stolonref15_Same.f k r.f0 r.f1 r.f2 r.f3 r.f4 r.f5 r.f0 r.f1 r.f2 r.f3 r.f4 r.f5 = some true := by
 obtain ⟨k, rfl⟩ : ∃ j, k = j + 1 := ⟨k - 1, by omega⟩
 unfold stolonref15_Same.f
 rw [if_pos rfl, if_pos rfl, if_pos rfl, if_pos rfl, if_pos rfl, stolonref15_Same.j0, if_neg (by simp)]
 exact same_loop r.f5 hl _ _ _ _ _ _ _ _ _ _ r.f5.length 0 k (by omega) (by omega)
theorem rows_loop (l : List Ru) (hl : l.length ≤ 1000000) (hs : ∀ r ∈ l, smallR r) : ∀ (d i k : Nat), i + d = l.length → d + 2010 ≤ k → stolonref15_Rows.l0 k l l (i : Int) = some true := by
 intro d
 induction d with
 | zero =>
  intro i k hi hk
  obtain ⟨k, rfl⟩ : ∃ j, k = j + 1 := ⟨k - 1, by omega⟩
  rw [stolonref15_Rows.l0, if_neg (by omega)]
 | succ d ih =>
  intro i k hi hk
  obtain ⟨k, rfl⟩ : ∃ j, k = j + 1 := ⟨k - 1, by omega⟩
  have hlt : i < l.length := by omega
  have hsm := hs _ (List.getElem_mem hlt)
  have := ih (i + 1) k (by omega) (by omega)
  rw [Int.natCast_add] at this
  rw [stolonref15_Rows.l0, if_pos (by omega), if_pos (by omega), if_pos (by omega), rd_ru l i hlt, same_refl _ (by have := hsm.1; omega) k (by have := hsm.1; omega), fbs, if_pos rfl, fw64 (by omega)]
  exact this
theorem rows_refl (l : List Ru) (hl : l.length ≤ 1000000) (hs : ∀ r ∈ l, smallR r) (k : Nat) (hk : l.length + 2010 ≤ k) : stolonref15_Rows.f k l l = some true := by
 unfold stolonref15_Rows.f
 rw [if_pos rfl]
 exact rows_loop l hl hs l.length 0 k (by omega) hk
def putR (l : List Ru) (r : Ru) (lim : Int) : List Ru × Int := if rightR r = true then (if placeB l (keyR r) = true then (putP l r, 0) else if (l.length : Int) ≥ lim then (l, 7) else (putP l r, 0)) else (l, 1)
theorem put_ok (l : List Ru) (r : Ru) (lim : Int) (hs : riseK l = true) (hl : l.length ≤ 100000) (hr : r.f5.length ≤ 1000000) (k : Nat) (hk : r.f5.length + 2 ≤ k) : flow_Put.f k l r.f0 r.f1 r.f2 r.f3 r.f4 r.f5 lim = some (putR l r lim) := by
 unfold flow_Put.f
 rw [if_pos ⟨hs, hl⟩, right_ok r hr k hk]
 simp only [fbs]
 unfold putR putP keyR
 cases rightR r with
 | false => rfl
 | true =>
  rw [if_pos rfl, if_pos rfl]
  cases placeB l (r.f0, r.f1, r.f2) with
  | true => rw [if_pos rfl, if_pos rfl, if_pos rfl]
  | false =>
   by_cases h : (l.length : Int) ≥ lim
   ·simp only [if_pos h, Bool.false_eq_true, if_false]
   ·simp only [if_neg h, Bool.false_eq_true, if_false]
theorem del_ok (l : List Ru) (a b c : Int) (hs : riseK l = true) (hl : l.length ≤ 100000) : flow_Del.f l a b c = some (delP l (a, b, c), placeB l (a, b, c)) := by
 unfold flow_Del.f delP
 rw [if_pos ⟨hs, hl⟩]
 cases placeB l (a, b, c) with
 | true => rw [if_pos rfl, if_pos rfl]
 | false => rw [if_neg (by simp), if_neg (by simp)]
theorem smallR_put {l : List Ru} {r : Ru} (hs : riseK l = true) (h : ∀ x ∈ l, smallR x) (hr : smallR r) : ∀ x ∈ putP l r, smallR x := by
 intro x hx
 rcases (mem_putP hs x).1 hx with rfl | hx
 ·exact hr
 ·exact h x hx.1
theorem smallR_del {l : List Ru} {key : Key} (hs : riseK l = true) (h : ∀ x ∈ l, smallR x) : ∀ x ∈ delP l key, smallR x := fun x hx => h x ((mem_delP hs x).1 hx).1
end Go.Proofs.Ytfomnmdjbdohgaa.P
