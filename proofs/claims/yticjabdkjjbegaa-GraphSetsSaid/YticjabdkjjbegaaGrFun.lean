/- The graph's functions, the program's and the document's, as plain functions of rows. -/
import Derived.Test.YticjabdkjjbegaaGrClosed
import Derived.Test.YticjabdkjjbegaaPx10
import Derived.Test.YticjabdkjjbegaaPx11
import Derived.Test.YticjabdkjjbegaaPx3
import Derived.Test.YticjabdkjjbegaaPx4
import Derived.Test.YticjabdkjjbegaaPx5
import Derived.Test.YticjabdkjjbegaaPx6
import Derived.Test.YticjabdkjjbegaaPx7
import Derived.Test.YticjabdkjjbegaaPx8
import Derived.Test.YticjabdkjjbegaaPx9
namespace Go.Proofs.Yticjabdkjjbegaa.P
set_option linter.unusedVariables false
set_option linter.unusedSimpArgs false
open Go.RowKit Go.Proofs.YticjabdkjjbegaaW.PrintWords Go.Proofs.YticjabdkjjbegaaW.PrintLast Go.Proofs.YticjabdkjjbegaaW.PrintMore
theorem w64 {x : Int} (h : -9223372036854775808 ≤ x ∧ x ≤ 9223372036854775807) : wrap64 x = x := by unfold wrap64; omega
theorem bs {α β : Type} (a : α) (f : α → Option β) : (some a).bind f = f a := by rw [Option.bind_some]
theorem rd_lk (ls : List Lk) (i : Nat) : rd_T41 ls (i : Int) = lk ls i := rfl
theorem rd_lki (ls : List Lk) (i : Int) (h : 0 ≤ i) : rd_T41 ls i = lk ls i.toNat := by unfold lk; rw [Int.toNat_of_nonneg h]
/-- A link as it should be. -/
def GoodLk (n : Int) (l : Lk) : Prop := 0 ≤ l.f0 ∧ l.f0 < l.f1 ∧ l.f1 < n ∧ 1 ≤ l.f2 ∧ l.f2 ≤ 1000
instance (n : Int) (l : Lk) : Decidable (GoodLk n l) := by unfold GoodLk; infer_instance
def Goods (n : Int) (ls : List Lk) : Prop := ∀ l, l ∈ ls → GoodLk n l
instance (n : Int) (ls : List Lk) : Decidable (Goods n ls) := by unfold Goods; infer_instance
/-- A graph as it should be. -/
def Rt (n : Int) (ls : List Lk) : Prop := (1 ≤ n ∧ n ≤ 32) ∧ ls.length ≤ 64 ∧ Goods n ls
instance (n : Int) (ls : List Lk) : Decidable (Rt n ls) := by unfold Rt; infer_instance
theorem Rt.ends {n : Int} {ls : List Lk} (h : Rt n ls) : Ends n ls := fun l hl => by have := h.2.2 l hl; unfold GoodLk at this; omega
theorem Rt.ok {n : Int} {ls : List Lk} (h : Rt n ls) : okG n ls = true := okG_mk h.1.2 h.2.1 (h.ends.ok h.1.2)
theorem rightR_l (n : Int) (ls : List Lk) (hn : 1 ≤ n ∧ n ≤ 32) (hl : ls.length ≤ 64) : ∀ (d i k : Nat), i + d = ls.length → d < k → stolonref11_Right.l0 k (i : Int) n ls = some (decide (Goods n (ls.drop i))) := by
  intro d
  induction d with
  | zero =>
    intro i k hi hk
    obtain ⟨k, rfl⟩ : ∃ k', k = k' + 1 := ⟨k - 1, by omega⟩
    rw [stolonref11_Right.l0, if_neg (by omega), List.drop_of_length_le (by omega)]
    exact congrArg some (decide_eq_true (fun l hl => by cases hl)).symm
  | succ d ih =>
    intro i k hi hk
    obtain ⟨k, rfl⟩ : ∃ k', k = k' + 1 := ⟨k - 1, by omega⟩
    have hlt : i < ls.length := by omega
    rw [stolonref11_Right.l0, if_pos (by omega), if_pos (by omega), w64 (x := n - 1) (by omega), w64 (x := (i : Int) + 1) (by omega), show (i : Int) + 1 = ((i + 1 : Nat) : Int) from rfl, ih (i + 1) k (by omega) (by omega), rd_lk, List.drop_eq_getElem_cons hlt, ← lk_at ls i hlt]
    generalize lk ls i = x
    have no : ¬ GoodLk n x → some false = some (decide (Goods n (x :: ls.drop (i + 1)))) := fun h => congrArg some (decide_eq_false (fun hh => h (hh x (List.mem_cons_self ..)))).symm
    by_cases h1 : x.f0 < 0
    · rw [if_pos h1]; exact no (by unfold GoodLk; omega)
    rw [if_neg h1]
    by_cases h2 : x.f1 ≤ x.f0
    · rw [if_pos h2]; exact no (by unfold GoodLk; omega)
    rw [if_neg h2]
    by_cases h3 : x.f1 > n - 1
    · rw [if_pos h3]; exact no (by unfold GoodLk; omega)
    rw [if_neg h3]
    by_cases h4 : x.f2 < 1
    · rw [if_pos h4]; exact no (by unfold GoodLk; omega)
    rw [if_neg h4]
    by_cases h5 : x.f2 > 1000
    · rw [if_pos h5]; exact no (by unfold GoodLk; omega)
    rw [if_neg h5]
    refine congrArg some (decide_eq_decide.2 ⟨fun h y hy => ?_, fun h y hy => h y (List.mem_cons_of_mem _ hy)⟩)
    rcases List.mem_cons.1 hy with rfl | hy
    · unfold GoodLk; omega
    · exact h y hy
theorem rightR_ok (n : Int) (ls : List Lk) (k : Nat) (hk : 70 ≤ k) : stolonref11_Right.f k n ls = some (decide (Rt n ls)) := by
  obtain ⟨k, rfl⟩ : ∃ k', k = k' + 1 := ⟨k - 1, by omega⟩
  unfold stolonref11_Right.f
  have no : ¬ Rt n ls → stolonref11_Right.j0 (k + 1) true n ls = some (decide (Rt n ls)) := fun h => by rw [stolonref11_Right.j0, if_pos rfl, decide_eq_false h]
  by_cases h1 : n < 1
  · rw [if_pos h1]; exact no (fun h => by have := h.1; omega)
  rw [if_neg h1]
  by_cases h2 : n > 32
  · rw [if_pos h2]; exact no (fun h => by have := h.1; omega)
  rw [if_neg h2]
  by_cases h3 : (ls.length : Int) > 64
  · rw [decide_eq_true h3]; exact no (fun h => by have := h.2.1; omega)
  rw [decide_eq_false h3, stolonref11_Right.j0, if_neg (by simp)]
  have := rightR_l n ls (by omega) (by omega) ls.length 0 k (by omega) (by omega)
  rw [show ((0 : Nat) : Int) = 0 from rfl] at this
  rw [this]
  refine congrArg some (decide_eq_decide.2 ?_)
  unfold Rt
  rw [List.drop_zero]
  exact ⟨fun h => ⟨by omega, by omega, h⟩, fun h => h.2.2⟩
/-- All of a row are links that there are. -/
def AreIn (ls : List Lk) (l : List Int) : Prop := ∀ i, i ∈ l → 0 ≤ i ∧ i < (ls.length : Int)
instance (ls : List Lk) (l : List Int) : Decidable (AreIn ls l) := by unfold AreIn; infer_instance
theorem areR_l (n : Int) (ls : List Lk) (l : List Int) (hl : l.length ≤ 100000) : ∀ (d i k : Nat), i + d = l.length → d < k → stolonref11_Are.l0 k l (i : Int) n ls = some (decide (AreIn ls (l.drop i))) := by
  intro d
  induction d with
  | zero =>
    intro i k hi hk
    obtain ⟨k, rfl⟩ : ∃ k', k = k' + 1 := ⟨k - 1, by omega⟩
    rw [stolonref11_Are.l0, if_neg (by omega), List.drop_of_length_le (by omega)]
    exact congrArg some (decide_eq_true (fun i hi => by cases hi)).symm
  | succ d ih =>
    intro i k hi hk
    obtain ⟨k, rfl⟩ : ∃ k', k = k' + 1 := ⟨k - 1, by omega⟩
    have hlt : i < l.length := by omega
    rw [stolonref11_Are.l0, if_pos (by omega), if_pos (by omega), w64 (x := (i : Int) + 1) (by omega), show (i : Int) + 1 = ((i + 1 : Nat) : Int) from rfl, ih (i + 1) k (by omega) (by omega), rd_at l i hlt, List.drop_eq_getElem_cons hlt]
    generalize l[i] = x
    have no : ¬ (0 ≤ x ∧ x < (ls.length : Int)) → some false = some (decide (AreIn ls (x :: l.drop (i + 1)))) := fun h => congrArg some (decide_eq_false (fun hh => h (hh x (List.mem_cons_self ..)))).symm
    by_cases h1 : x < 0
    · rw [if_pos h1]; exact no (by omega)
    rw [if_neg h1]
    by_cases h2 : x ≥ (ls.length : Int)
    · rw [if_pos h2]; exact no (by omega)
    rw [if_neg h2]
    refine congrArg some (decide_eq_decide.2 ⟨fun h y hy => ?_, fun h y hy => h y (List.mem_cons_of_mem _ hy)⟩)
    rcases List.mem_cons.1 hy with rfl | hy
    · omega
    · exact h y hy
theorem areR_ok (n : Int) (ls : List Lk) (l : List Int) (k : Nat) (hl : l.length ≤ 100000) (hk : l.length < k) : stolonref11_Are.f k n ls l = some (decide (AreIn ls l)) := by
  have := areR_l n ls l hl l.length 0 k (by omega) hk
  rwa [List.drop_zero] at this
theorem ints_l (a b : List Int) (hl : a.length ≤ 100000) (he : a.length = b.length) : ∀ (d i k : Nat), i + d = a.length → d < k → stolonref09_Ints.l0 k a b (i : Int) = some (decide (a.drop i = b.drop i)) := by
  intro d
  induction d with
  | zero =>
    intro i k hi hk
    obtain ⟨k, rfl⟩ : ∃ k', k = k' + 1 := ⟨k - 1, by omega⟩
    rw [stolonref09_Ints.l0, if_neg (by omega), List.drop_of_length_le (by omega), List.drop_of_length_le (by omega)]
    simp
  | succ d ih =>
    intro i k hi hk
    obtain ⟨k, rfl⟩ : ∃ k', k = k' + 1 := ⟨k - 1, by omega⟩
    have hlt : i < a.length := by omega
    rw [stolonref09_Ints.l0, if_pos (by omega), if_pos (by omega), if_pos (by omega), w64 (x := (i : Int) + 1) (by omega), show (i : Int) + 1 = ((i + 1 : Nat) : Int) from rfl, ih (i + 1) k (by omega) (by omega), rd_at a i hlt, rd_at b i (by omega), List.drop_eq_getElem_cons hlt, List.drop_eq_getElem_cons (by omega : i < b.length)]
    by_cases h : a[i] = b[i]'(by omega)
    · rw [if_pos h]
      refine congrArg some (decide_eq_decide.2 ?_)
      rw [h]
      exact ⟨fun e => by rw [e], fun e => (List.cons.inj e).2⟩
    · rw [if_neg h]
      exact congrArg some (decide_eq_false (fun e => h (List.cons.inj e).1)).symm
theorem ints_ok (a b : List Int) (k : Nat) (hl : a.length ≤ 100000) (hk : a.length < k) : stolonref09_Ints.f k a b = some (decide (a = b)) := by
  unfold stolonref09_Ints.f
  by_cases h : (a.length : Int) = (b.length : Int)
  · rw [if_pos h]
    have := ints_l a b hl (by omega) a.length 0 k (by omega) hk
    rwa [List.drop_zero, List.drop_zero] at this
  · rw [if_neg h]
    exact congrArg some (decide_eq_false (fun e => h (by rw [e]))).symm
theorem in_l (l : List Int) (x : Int) (hl : l.length ≤ 100000) : ∀ (d i k : Nat), i + d = l.length → d < k → stolonref11_In.l0 k l x (i : Int) = some (decide (x ∈ l.drop i)) := by
  intro d
  induction d with
  | zero =>
    intro i k hi hk
    obtain ⟨k, rfl⟩ : ∃ k', k = k' + 1 := ⟨k - 1, by omega⟩
    rw [stolonref11_In.l0, if_neg (by omega), List.drop_of_length_le (by omega)]
    simp
  | succ d ih =>
    intro i k hi hk
    obtain ⟨k, rfl⟩ : ∃ k', k = k' + 1 := ⟨k - 1, by omega⟩
    have hlt : i < l.length := by omega
    rw [stolonref11_In.l0, if_pos (by omega), if_pos (by omega), w64 (x := (i : Int) + 1) (by omega), show (i : Int) + 1 = ((i + 1 : Nat) : Int) from rfl, ih (i + 1) k (by omega) (by omega), rd_at l i hlt, List.drop_eq_getElem_cons hlt]
    by_cases h : l[i] = x
    · rw [if_pos h]
      exact congrArg some (decide_eq_true (List.mem_cons.2 (.inl h.symm))).symm
    · rw [if_neg h]
      refine congrArg some (decide_eq_decide.2 ⟨fun hm => List.mem_cons_of_mem _ hm, fun hm => ?_⟩)
      rcases List.mem_cons.1 hm with e | e
      · exact absurd e.symm h
      · exact e
theorem in_ok (l : List Int) (x : Int) (k : Nat) (hl : l.length ≤ 100000) (hk : l.length < k) : stolonref11_In.f k l x = some (decide (x ∈ l)) := by
  have := in_l l x hl l.length 0 k (by omega) hk
  rwa [List.drop_zero] at this
/-! ### the document's rounds -/
theorem closed_l3 (m : List Bool) (n : Nat) (ls : List Lk) (hm : m.length = n) (hn : n ≤ 32) : ∀ (d i k : Nat), i + d = n → d < k → stolonref11_closed.l3 k m (markedTo m i) (i : Int) (n : Int) ls = some (markedTo m n) := by
  intro d
  induction d with
  | zero =>
    intro i k hi hk
    obtain ⟨k, rfl⟩ : ∃ k', k = k' + 1 := ⟨k - 1, by omega⟩
    obtain rfl : i = n := by omega
    rw [stolonref11_closed.l3, if_neg (by omega)]
  | succ d ih =>
    intro i k hi hk
    obtain ⟨k, rfl⟩ : ∃ k', k = k' + 1 := ⟨k - 1, by omega⟩
    have hlen := markedTo_length m i
    rw [stolonref11_closed.l3, if_pos (by omega), if_pos (by omega), if_pos (by omega), w64 (x := (i : Int) + 1) (by omega), show (i : Int) + 1 = ((i + 1 : Nat) : Int) from rfl, show rdOf false m (i : Int) = m.getD i false from rfl, if_pos (by omega : (markedTo m i).length < 17592186044416)]
    have h1 := ih (i + 1) k (by omega) (by omega)
    rw [markedTo_succ] at h1
    by_cases h : m.getD i false = true
    · rw [if_pos h] at h1 ⊢
      exact h1
    · rw [if_neg h] at h1 ⊢
      exact h1
theorem closed_l2 (may : List Bool) (n : Nat) (ls : List Lk) (he : Ends (n : Int) ls) (hl : ls.length ≤ 64) (hmay : may.length = ls.length) (m0 : List Bool) (hm : m0.length = n) (x : Int) (hx : 0 ≤ x ∧ x < n) (hn : n ≤ 32) : ∀ (d i k : Nat), i + d = ls.length → stolonref11_closed.l2 (k + d + 1) may (clTo (fun j => may.getD j false) ls m0 i) x (i : Int) (n : Int) ls = stolonref11_closed.l1 k may (clTo (fun j => may.getD j false) ls m0 ls.length) (x + 1) (n : Int) ls := by
  intro d
  induction d with
  | zero =>
    intro i k hi
    obtain rfl : i = ls.length := by omega
    rw [Nat.add_zero, stolonref11_closed.l2, if_neg (by omega), w64 (x := x + 1) (by omega)]
  | succ d ih =>
    intro i k hi
    have hlt : i < ls.length := by omega
    have hg := he _ (lk_mem ls i hlt)
    have h1 := ih (i + 1) k (by omega)
    have hlen : (clTo (fun j => may.getD j false) ls m0 i).length = n := (clTo_len i).trans hm
    rw [show clTo (fun j => may.getD j false) ls m0 (i + 1) = clStep (fun j => may.getD j false) ls (clTo (fun j => may.getD j false) ls m0 i) i from rfl] at h1
    generalize clTo (fun j => may.getD j false) ls m0 i = m at h1 hlen ⊢
    generalize clTo (fun j => may.getD j false) ls m0 ls.length = mE at h1 ⊢
    rw [show k + (d + 1) + 1 = (k + d + 1) + 1 by omega, stolonref11_closed.l2, if_pos (by omega), if_pos (by omega), if_pos (by omega), w64 (x := (i : Int) + 1) (by omega), show (i : Int) + 1 = ((i + 1 : Nat) : Int) from rfl, show rdOf false may (i : Int) = may.getD i false from rfl, rd_lk]
    unfold clStep at h1
    generalize lk ls i = l at hg h1 ⊢
    rw [show ∀ z : Int, rdOf false m z = m.getD z.toNat false from fun _ => rfl, show ∀ z : Int, rdOf false m z = m.getD z.toNat false from fun _ => rfl]
    by_cases hp : may.getD i false = true
    · rw [if_pos hp, if_pos (by omega), if_pos (by omega)]
      by_cases ha : m.getD l.f0.toNat false = true
      · rw [if_pos ha, if_pos (by omega), if_pos (by omega)]
        rwa [if_pos ⟨hp, .inl ha⟩] at h1
      · rw [if_neg ha, if_pos (by omega), if_pos (by omega)]
        by_cases hb : m.getD l.f1.toNat false = true
        · rw [if_pos hb]
          rwa [if_pos ⟨hp, .inr hb⟩] at h1
        · rw [if_neg hb]
          rwa [if_neg (fun h => h.2.elim ha hb)] at h1
    · rw [if_neg hp]
      rwa [if_neg (fun h => hp h.1)] at h1
theorem closed_l1 (may : List Bool) (n : Nat) (ls : List Lk) (he : Ends (n : Int) ls) (hl : ls.length ≤ 64) (hmay : may.length = ls.length) (m0 : List Bool) (hm : m0.length = n) (hn : n ≤ 32) : ∀ (d i k : Nat), i + d = n → 70 * d + 40 ≤ k → stolonref11_closed.l1 k may (clN (fun j => may.getD j false) ls m0 i) (i : Int) (n : Int) ls = some (markedTo (clN (fun j => may.getD j false) ls m0 n) n) := by
  intro d
  induction d with
  | zero =>
    intro i k hi hk
    obtain ⟨k, rfl⟩ : ∃ k', k = k' + 1 := ⟨k - 1, by omega⟩
    obtain rfl : i = n := by omega
    rw [stolonref11_closed.l1, if_neg (by omega)]
    have := closed_l3 (clN (fun j => may.getD j false) ls m0 i) i ls ((clN_len _).trans hm) hn i 0 k (by omega) (by omega)
    exact this
  | succ d ih =>
    intro i k hi hk
    obtain ⟨k, rfl⟩ : ∃ k', k = k' + (ls.length + 1) + 1 := ⟨k - ls.length - 2, by omega⟩
    have h2 := closed_l2 may n ls he hl hmay (clN (fun j => may.getD j false) ls m0 i) ((clN_len _).trans hm) (i : Int) (by omega) hn ls.length 0 k (by omega)
    rw [stolonref11_closed.l1, if_pos (by omega)]
    refine Eq.trans h2 ?_
    exact ih (i + 1) k (by omega) (by omega)
theorem closed_l0 (may : List Bool) (n : Nat) (ls : List Lk) (a : Int) (hn : n ≤ 32) : ∀ (d i k : Nat), i + d = n → stolonref11_closed.l0 (k + d + 1) a may ((List.range i).map (fun (j : Nat) => (j : Int) == a)) (i : Int) (n : Int) ls = stolonref11_closed.l1 k may ((List.range n).map (fun (j : Nat) => (j : Int) == a)) 0 (n : Int) ls := by
  intro d
  induction d with
  | zero =>
    intro i k hi
    obtain rfl : i = n := by omega
    rw [Nat.add_zero, stolonref11_closed.l0, if_neg (by omega)]
  | succ d ih =>
    intro i k hi
    have h1 := ih (i + 1) k (by omega)
    rw [List.range_succ, List.map_append] at h1
    rw [show k + (d + 1) + 1 = (k + d + 1) + 1 by omega, stolonref11_closed.l0, if_pos (by omega), if_pos (by simp; omega), w64 (x := (i : Int) + 1) (by omega)]
    exact h1
theorem closedR_ok (n : Int) (ls : List Lk) (a : Int) (may : List Bool) (k : Nat) (h : Rt n ls) (hmay : may.length = ls.length) (hk : 3000 ≤ k) : stolonref11_closed.f k n ls a may = some (reachL n ls (fun j => may.getD j false) a) := by
  have h1 := h.1
  have he := h.ends
  rw [← closed_eq he (by omega) (by omega)]
  obtain ⟨m, rfl⟩ : ∃ m : Nat, n = m := ⟨n.toNat, by omega⟩
  obtain ⟨k, rfl⟩ : ∃ k', k = k' + m + 1 := ⟨k - m - 1, by omega⟩
  unfold stolonref11_closed.f closedL initM
  have h2 := closed_l0 may m ls a (by omega) m 0 k (by omega)
  refine Eq.trans h2 ?_
  rw [Int.toNat_natCast]
  exact closed_l1 may m ls he h.2.1 hmay _ (by simp) (by omega) m 0 k (by omega) (by omega)
theorem reachL_ext {n : Int} {ls : List Lk} {p p' : Nat → Bool} {a : Int} (he : Ends n ls) (hn : n ≤ 32) (h : ∀ i, i < ls.length → p i = p' i) : reachL n ls p a = reachL n ls p' a :=
  rising_eq (markedTo_sorted _ _) (markedTo_sorted _ _) (fun x => by
    have h1 := mem_reachL (p := p) (a := a) he hn x
    have h2 := mem_reachL (p := p') (a := a) he hn x
    rw [h1, h2]
    exact ⟨fun ⟨u, v⟩ => ⟨u, v.mono (fun i hi e => by rw [← h i hi]; exact e)⟩, fun ⟨u, v⟩ => ⟨u, v.mono (fun i hi e => by rw [h i hi]; exact e)⟩⟩)
theorem reachL_le (n : Int) (ls : List Lk) (p : Nat → Bool) (a : Int) : (reachL n ls p a).length ≤ 32 := markedTo_length _ _
theorem nodesR_l (n : Int) (ls : List Lk) (l : List Int) (a : Int) (h : Rt n ls) (hl : l.length ≤ 1000) : ∀ (d i k : Nat), i + d = ls.length → 5000 ≤ k → stolonref11_Nodes.l0 (k + d + 1) l a ((List.range i).map (inRow l)) (i : Int) n ls = some (reachL n ls (inRow l) a) := by
  intro d
  induction d with
  | zero =>
    intro i k hi hk
    obtain rfl : i = ls.length := by omega
    rw [Nat.add_zero, stolonref11_Nodes.l0, if_neg (by omega), closedR_ok n ls a _ _ h (by simp) (by omega), bs]
    refine congrArg some (reachL_ext h.ends h.1.2 (fun i hi => ?_))
    rw [List.getD_eq_getElem?_getD, List.getElem?_map, List.getElem?_range hi]
    rfl
  | succ d ih =>
    intro i k hi hk
    have h1 := ih (i + 1) k (by omega) hk
    have h2 := h.2.1
    rw [List.range_succ, List.map_append] at h1
    rw [show k + (d + 1) + 1 = (k + d + 1) + 1 by omega, stolonref11_Nodes.l0, if_pos (by omega), in_ok l _ _ (by omega) (by omega), bs, if_pos (by simp; omega), w64 (x := (i : Int) + 1) (by omega), show decide ((i : Int) ∈ l) = inRow l i from by rw [Bool.eq_iff_iff, decide_eq_true_eq, inRow_iff]]
    exact h1
theorem nodesR_ok (n : Int) (ls : List Lk) (l : List Int) (a : Int) (k : Nat) (h : Rt n ls) (hl : l.length ≤ 1000) (hk : 6000 ≤ k) : stolonref11_Nodes.f k n ls l a = some (reachL n ls (inRow l) a) := by
  obtain ⟨k, rfl⟩ : ∃ k', k = k' + ls.length + 1 := ⟨k - ls.length - 1, by have := h.2.1; omega⟩
  exact nodesR_l n ls l a h hl ls.length 0 k (by omega) (by have := h.2.1; omega)
theorem nodes_ok (n : Int) (ls : List Lk) (l : List Int) (a : Int) (h : Rt n ls) : graph_Nodes.f n ls l a = some (reachL n ls (inRow l) a) := by
  unfold graph_Nodes.f
  rw [if_pos h.ok]
  rfl
def upB (ls : List Lk) (i : Nat) : Bool := (lk ls i).f3
theorem reach_ok (n : Int) (ls : List Lk) (a : Int) (h : Rt n ls) : graph_Reach.f n ls a = some (reachL n ls (upB ls) a) := by
  unfold graph_Reach.f
  rw [if_pos h.ok]
  rfl
/-- Is a row of links a tree? -/
def TreeP (n : Int) (ls : List Lk) (l : List Int) (a : Int) : Prop := l.Pairwise (· < ·) ∧ (reachL n ls (inRow l) a).length = l.length + 1 ∧ ∀ i, i ∈ l → (lk ls i.toNat).f0 ∈ reachL n ls (inRow l) a
instance (n : Int) (ls : List Lk) (l : List Int) (a : Int) : Decidable (TreeP n ls l a) := by unfold TreeP; infer_instance
theorem tree_ok (n : Int) (ls : List Lk) (l : List Int) (a : Int) (h : Rt n ls) (hl : l.length ≤ 1000) (ha : AreIn ls l) : graph_Tree.f n ls l a = some (decide (TreeP n ls l a)) := by
  unfold graph_Tree.f
  rw [if_pos ⟨h.ok, by omega, ha⟩]
  refine congrArg some ?_
  rw [Bool.eq_iff_iff, decide_eq_true_eq]
  unfold treeF TreeP
  rw [show nodesF n ls l a = reachL n ls (inRow l) a from rfl, Bool.and_eq_true, Bool.and_eq_true, decide_eq_true_eq, decide_eq_true_eq, Bool.not_eq_true', List.any_eq_false]
  refine and_congr Iff.rfl (and_congr Iff.rfl ⟨fun h2 i hi => ?_, fun h2 i hi => ?_⟩)
  · have h3 := h2 i hi
    have h4 := ha i hi
    unfold apartF at h3
    rw [Bool.not_eq_true, Bool.not_eq_false', List.any_eq_true] at h3
    obtain ⟨x, hx, e⟩ := h3
    rw [beq_iff_eq, rd_lki ls i h4.1] at e
    exact e ▸ hx
  · have h4 := ha i hi
    unfold apartF
    rw [Bool.not_eq_true, Bool.not_eq_false', List.any_eq_true]
    exact ⟨_, h2 i hi, by rw [rd_lki ls i h4.1]; simp⟩
theorem treeR_l (n : Int) (ls : List Lk) (l ns : List Int) (hl : l.length ≤ 1000) (hns : ns.length ≤ 1000) (ha : AreIn ls l) : ∀ (d i k : Nat), i + d = l.length → 5000 ≤ k → stolonref11_Tree.l0 (k + d + 1) l ns (i : Int) n ls = some (decide ((∀ j, j < l.length → i ≤ j → ((lk ls (rd l (j : Int)).toNat).f0 ∈ ns ∧ (0 < j → rd l ((j - 1 : Nat) : Int) < rd l (j : Int)))) ∧ ns.length = l.length + 1)) := by
  intro d
  induction d with
  | zero =>
    intro i k hi hk
    rw [Nat.add_zero, stolonref11_Tree.l0, if_neg (by omega), w64 (x := (l.length : Int) + 1) (by omega)]
    refine congrArg some ?_
    rw [Bool.eq_iff_iff, beq_iff_eq, decide_eq_true_eq]
    exact ⟨fun h => ⟨fun j h1 h2 => by omega, by omega⟩, fun h => by omega⟩
  | succ d ih =>
    intro i k hi hk
    have hlt : i < l.length := by omega
    have hx := ha l[i] (List.getElem_mem hlt)
    have h1 := ih (i + 1) k (by omega) hk
    rw [show k + (d + 1) + 1 = (k + d + 1) + 1 by omega, stolonref11_Tree.l0, if_pos (by omega), if_pos (by omega), rd_at l i hlt, if_pos hx.1, if_pos hx.2, in_ok ns _ _ (by omega) (by omega), bs, rd_lki ls _ hx.1, w64 (x := (i : Int) + 1) (by omega), show (i : Int) + 1 = ((i + 1 : Nat) : Int) from rfl, h1]
    by_cases h2 : (lk ls l[i].toNat).f0 ∈ ns
    · rw [decide_eq_true h2, if_pos rfl]
      by_cases h3 : (i : Int) > 0
      · rw [if_pos h3, w64 (x := (i : Int) - 1) (by omega), if_pos (by omega), if_pos (by omega), show (i : Int) - 1 = ((i - 1 : Nat) : Int) by omega]
        by_cases h4 : rd l ((i - 1 : Nat) : Int) ≥ l[i]
        · rw [if_pos h4]
          refine congrArg some (decide_eq_false (fun hh => ?_)).symm
          have := (hh.1 i hlt (Nat.le_refl _)).2 (by omega)
          rw [rd_at l i hlt] at this
          omega
        · rw [if_neg h4]
          refine congrArg some (decide_eq_decide.2 (and_congr ⟨fun h j hj hij => ?_, fun h j hj hij => h j hj (by omega)⟩ Iff.rfl))
          by_cases e : j = i
          · subst e
            rw [rd_at l j hj]
            exact ⟨h2, fun _ => by omega⟩
          · exact h j hj (by omega)
      · rw [if_neg h3]
        refine congrArg some (decide_eq_decide.2 (and_congr ⟨fun h j hj hij => ?_, fun h j hj hij => h j hj (by omega)⟩ Iff.rfl))
        by_cases e : j = i
        · subst e
          rw [rd_at l j hj]
          exact ⟨h2, fun _ => by omega⟩
        · exact h j hj (by omega)
    · rw [decide_eq_false h2, if_neg (by simp)]
      refine congrArg some (decide_eq_false (fun hh => h2 ?_)).symm
      have := (hh.1 i hlt (Nat.le_refl _)).1
      rwa [rd_at l i hlt] at this
theorem treeR_ok (n : Int) (ls : List Lk) (l : List Int) (a : Int) (k : Nat) (h : Rt n ls) (hl : l.length ≤ 1000) (ha : AreIn ls l) (hk : 7000 ≤ k) : stolonref11_Tree.f k n ls l a = some (decide (TreeP n ls l a)) := by
  unfold stolonref11_Tree.f
  rw [nodesR_ok n ls l a k h hl (by omega), bs]
  obtain ⟨k, rfl⟩ : ∃ k', k = k' + l.length + 1 := ⟨k - l.length - 1, by omega⟩
  have h1 := treeR_l n ls l (reachL n ls (inRow l) a) hl (by have := reachL_le n ls (inRow l) a; omega) ha l.length 0 k (by omega) (by omega)
  refine Eq.trans h1 (congrArg some (decide_eq_decide.2 ?_))
  unfold TreeP
  constructor
  · rintro ⟨h2, h3⟩
    refine ⟨adj_pairwise (R := fun (a b : Int) => a < b) (fun a b c h1 h2 => Int.lt_trans h1 h2) l (fun j hj => ?_), h3, fun i hi => ?_⟩
    · have := (h2 (j + 1) hj (by omega)).2 (by omega)
      rwa [Nat.add_sub_cancel, rd_at l j (by omega), rd_at l (j + 1) hj] at this
    · obtain ⟨j, hj, rfl⟩ := List.getElem_of_mem hi
      have := (h2 j hj (by omega)).1
      rwa [rd_at l j hj] at this
  · rintro ⟨h2, h3, h4⟩
    refine ⟨fun j hj _ => ⟨?_, fun hj0 => ?_⟩, h3⟩
    · rw [rd_at l j hj]; exact h4 _ (List.getElem_mem hj)
    · obtain ⟨i, rfl⟩ : ∃ i, j = i + 1 := ⟨j - 1, by omega⟩
      rw [Nat.add_sub_cancel, rd_at l i (by omega), rd_at l (i + 1) hj]
      exact pairwise_adj h2 i hj
/-! ### what links cost -/
def costL (ls : List Lk) : List Int → Int
  | [] => 0
  | i :: l => (lk ls i.toNat).f2 + costL ls l
theorem costL_snoc (ls : List Lk) (l : List Int) (i : Int) : costL ls (l ++ [i]) = costL ls l + (lk ls i.toNat).f2 := by
  induction l with
  | nil => simp [costL]
  | cons x l ih => simp only [List.cons_append, costL, ih]; omega
theorem costL_bound {n : Int} {ls : List Lk} (h : Rt n ls) : ∀ {l : List Int}, AreIn ls l → 0 ≤ costL ls l ∧ costL ls l ≤ 1000 * l.length
  | [], _ => ⟨Int.le_refl _, by simp [costL]⟩
  | i :: l, ha => by
    have ih := costL_bound h (l := l) (fun j hj => ha j (List.mem_cons_of_mem _ hj))
    have hi := ha i (List.mem_cons_self ..)
    have hg := h.2.2 _ (lk_mem ls i.toNat (by omega))
    unfold GoodLk at hg
    simp only [costL, List.length_cons]
    omega
theorem cost_l {n : Int} {ls : List Lk} (h : Rt n ls) (l : List Int) (hl : l.length ≤ 1000) (ha : AreIn ls l) : ∀ (d i k : Nat), i + d = l.length → d < k → graph_Cost.l0 k (costL ls (l.take i)) l (l.length : Int) (i : Int) n ls = some (costL ls l) := by
  intro d
  induction d with
  | zero =>
    intro i k hi hk
    obtain ⟨k, rfl⟩ : ∃ k', k = k' + 1 := ⟨k - 1, by omega⟩
    rw [graph_Cost.l0, if_neg (by omega), List.take_of_length_le (by omega)]
  | succ d ih =>
    intro i k hi hk
    obtain ⟨k, rfl⟩ : ∃ k', k = k' + 1 := ⟨k - 1, by omega⟩
    have hlt : i < l.length := by omega
    have hx := ha l[i] (List.getElem_mem hlt)
    have h1 := ih (i + 1) k (by omega) (by omega)
    have hb := costL_bound h (l := l.take (i + 1)) (fun j hj => ha j (List.mem_of_mem_take hj))
    rw [List.take_succ_eq_append_getElem hlt, costL_snoc] at h1 hb
    have hbl : (l.take i ++ [l[i]]).length ≤ 1000 := by simp; omega
    rw [graph_Cost.l0, if_pos (by omega), if_pos (by omega), if_pos (by omega), rd_at l i hlt, if_pos hx.1, if_pos hx.2, rd_lki ls _ hx.1, w64 (x := (i : Int) + 1) (by omega), w64 (by omega)]
    exact h1
theorem cost_ok {n : Int} {ls : List Lk} (h : Rt n ls) (l : List Int) (k : Nat) (hl : l.length ≤ 1000) (ha : AreIn ls l) (hk : l.length < k) : graph_Cost.f k n ls l = some (costL ls l) :=
  cost_l h l hl ha l.length 0 k (by omega) hk
theorem costR_l {n : Int} {ls : List Lk} (h : Rt n ls) (l : List Int) (hl : l.length ≤ 1000) (ha : AreIn ls l) : ∀ (d i k : Nat), i + d = l.length → d < k → stolonref11_Cost.l0 k l (costL ls (l.take i)) (i : Int) n ls = some (costL ls l) := by
  intro d
  induction d with
  | zero =>
    intro i k hi hk
    obtain ⟨k, rfl⟩ : ∃ k', k = k' + 1 := ⟨k - 1, by omega⟩
    rw [stolonref11_Cost.l0, if_neg (by omega), List.take_of_length_le (by omega)]
  | succ d ih =>
    intro i k hi hk
    obtain ⟨k, rfl⟩ : ∃ k', k = k' + 1 := ⟨k - 1, by omega⟩
    have hlt : i < l.length := by omega
    have hx := ha l[i] (List.getElem_mem hlt)
    have h1 := ih (i + 1) k (by omega) (by omega)
    have hb := costL_bound h (l := l.take (i + 1)) (fun j hj => ha j (List.mem_of_mem_take hj))
    rw [List.take_succ_eq_append_getElem hlt, costL_snoc] at h1 hb
    have hbl : (l.take i ++ [l[i]]).length ≤ 1000 := by simp; omega
    rw [stolonref11_Cost.l0, if_pos (by omega), if_pos (by omega), rd_at l i hlt, if_pos hx.1, if_pos hx.2, rd_lki ls _ hx.1, w64 (x := (i : Int) + 1) (by omega), w64 (by omega)]
    exact h1
theorem costR_ok {n : Int} {ls : List Lk} (h : Rt n ls) (l : List Int) (k : Nat) (hl : l.length ≤ 1000) (ha : AreIn ls l) (hk : l.length < k) : stolonref11_Cost.f k n ls l = some (costL ls l) :=
  costR_l h l hl ha l.length 0 k (by omega) hk
abbrev Hp := S43
/-- The hop over a link from a switch, if there is one. -/
def hopAt (ls : List Lk) (a : Int) (i : Nat) : List Hp := if (lk ls i).f3 = true then (match overTo (lk ls i) a with | some b => [⟨(i : Int), b⟩] | none => []) else []
def nextTo (ls : List Lk) (a : Int) (i : Nat) : List Hp := (List.range i).flatMap (hopAt ls a)
theorem nextTo_succ (ls : List Lk) (a : Int) (i : Nat) : nextTo ls a (i + 1) = nextTo ls a i ++ hopAt ls a i := by
  unfold nextTo
  rw [List.range_succ, List.flatMap_append]
  simp
theorem hopAt_len (ls : List Lk) (a : Int) (i : Nat) : (hopAt ls a i).length ≤ 1 := by
  unfold hopAt
  split
  · split <;> simp
  · simp
theorem nextTo_len (ls : List Lk) (a : Int) (i : Nat) : (nextTo ls a i).length ≤ i := by
  induction i with
  | zero => simp [nextTo]
  | succ i ih => rw [nextTo_succ, List.length_append]; have := hopAt_len ls a i; omega
theorem mem_nextTo {ls : List Lk} {a : Int} {k : Nat} {x : Hp} : x ∈ nextTo ls a k ↔ ∃ i, i < k ∧ (lk ls i).f3 = true ∧ overTo (lk ls i) a = some x.f1 ∧ x.f0 = (i : Int) := by
  unfold nextTo
  rw [List.mem_flatMap]
  constructor
  · rintro ⟨i, hi, hx⟩
    refine ⟨i, List.mem_range.1 hi, ?_⟩
    unfold hopAt at hx
    split at hx
    · rename_i hup
      split at hx
      · rename_i b hb
        obtain rfl := List.mem_singleton.1 hx
        exact ⟨hup, hb, rfl⟩
      · cases hx
    · cases hx
  · rintro ⟨i, hi, hup, ho, h0⟩
    refine ⟨i, List.mem_range.2 hi, ?_⟩
    unfold hopAt
    rw [if_pos hup, ho]
    exact List.mem_singleton.2 (by cases x; simp_all)
theorem next_l (n : Int) (ls : List Lk) (a : Int) (hl : ls.length ≤ 64) : ∀ (d i k : Nat), i + d = ls.length → d < k → graph_Next.l0 k a (nextTo ls a i) ls (ls.length : Int) (i : Int) = some (nextTo ls a ls.length) := by
  intro d
  induction d with
  | zero =>
    intro i k hi hk
    obtain ⟨k, rfl⟩ : ∃ k', k = k' + 1 := ⟨k - 1, by omega⟩
    obtain rfl : i = ls.length := by omega
    rw [graph_Next.l0, if_neg (by omega)]
  | succ d ih =>
    intro i k hi hk
    obtain ⟨k, rfl⟩ : ∃ k', k = k' + 1 := ⟨k - 1, by omega⟩
    have h1 := ih (i + 1) k (by omega) (by omega)
    have hln := nextTo_len ls a i
    rw [nextTo_succ] at h1
    rw [graph_Next.l0, if_pos (by omega), if_pos (by omega), if_pos (by omega), rd_lk, w64 (x := (i : Int) + 1) (by omega), show (i : Int) + 1 = ((i + 1 : Nat) : Int) from rfl]
    unfold hopAt at h1
    cases ho : overTo (lk ls i) a with
    | none =>
      rw [over_none ho, bs, if_neg (by simp)]
      rw [ho] at h1
      simpa using h1
    | some b =>
      rw [over_some ho, bs, if_pos rfl]
      rw [ho] at h1
      by_cases hu : (lk ls i).f3 = true
      · rw [if_pos hu] at h1 ⊢; rw [if_pos (by omega)]; exact h1
      · rw [if_neg hu] at h1 ⊢
        simpa using h1
theorem next_ok (n : Int) (ls : List Lk) (a : Int) (k : Nat) (hl : ls.length ≤ 64) (hk : 65 ≤ k) : graph_Next.f k n ls a = some (nextTo ls a ls.length) := next_l n ls a hl ls.length 0 k (by omega) (by omega)
theorem shown_ok (k : Nat) (hk : 65 ≤ k) : stolonlaw11_shown.f k = some true := by
  obtain ⟨k, rfl⟩ : ∃ k', k = k' + 8 := ⟨k - 8, by omega⟩
  have hk2 : 65 ≤ k + 8 := by omega
  have h1 : graph_Reach.f 3 [(⟨0, 1, 1, true⟩ : Lk), (⟨1, 2, 4, true⟩ : Lk)] 0 = some [0, 1, 2] := by decide +kernel
  have h2 : graph_Right.f 3 [(⟨0, 1, 1, true⟩ : Lk), (⟨1, 2, 4, true⟩ : Lk)] = some true := by decide +kernel
  have h3 : graph_Tree.f 3 [(⟨0, 1, 1, true⟩ : Lk), (⟨1, 2, 4, true⟩ : Lk)] [0, 1] 2 = some true := by decide +kernel
  have h4 : graph_Cost.f (k + 8) 3 [(⟨0, 1, 1, true⟩ : Lk), (⟨1, 2, 4, true⟩ : Lk)] [0, 1] = some 5 := cost_ok (n := 3) (ls := [(⟨0, 1, 1, true⟩ : Lk), (⟨1, 2, 4, true⟩ : Lk)]) (by decide +kernel) [0, 1] _ (by simp) (by decide +kernel) (by simp)
  have h5 : ∃ t, graph_Next.f (k + 8) 3 [(⟨0, 1, 1, true⟩ : Lk), (⟨1, 2, 4, true⟩ : Lk)] 1 = some t ∧ t.length = 2 := ⟨_, next_ok 3 _ 1 _ (by simp) hk2, by decide⟩
  obtain ⟨t, ht, hl⟩ := h5
  unfold stolonlaw11_shown.f
  rw [bs, h1, bs, h2, bs, if_pos rfl, if_pos (by decide), h3, bs, if_pos rfl, h4, bs, if_pos rfl, ht, bs, hl]
  rfl
end Go.Proofs.Yticjabdkjjbegaa.P
