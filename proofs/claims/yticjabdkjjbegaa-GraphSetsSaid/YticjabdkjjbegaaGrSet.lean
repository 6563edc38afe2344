/- A graph with a link set: plain lemmas. -/
import Derived.Test.YticjabdkjjbegaaGrTree
import Derived.Test.YticjabdkjjbegaaPx16
import Derived.Test.YticjabdkjjbegaaPx18
namespace Go.Proofs.Yticjabdkjjbegaa.P
set_option linter.unusedVariables false
set_option linter.unusedSimpArgs false
open Go.RowKit Go.Proofs.YticjabdkjjbegaaW.PrintWords Go.Proofs.YticjabdkjjbegaaW.PrintLast Go.Proofs.YticjabdkjjbegaaW.PrintMore
theorem lk_ext {a b : Lk} (h0 : a.f0 = b.f0) (h1 : a.f1 = b.f1) (h2 : a.f2 = b.f2) (h3 : a.f3 = b.f3) : a = b := by cases a; cases b; simp_all
/-- The links with link i up, or down. -/
def setUp (ls : List Lk) (i : Nat) (u : Bool) : List Lk := ls.set i ⟨(lk ls i).f0, (lk ls i).f1, (lk ls i).f2, u⟩
theorem setUp_len (ls : List Lk) (i : Nat) (u : Bool) : (setUp ls i u).length = ls.length := by simp [setUp]
theorem lk_setUp (ls : List Lk) (i : Nat) (u : Bool) (j : Nat) (hj : j < ls.length) : lk (setUp ls i u) j = if i = j then ⟨(lk ls i).f0, (lk ls i).f1, (lk ls i).f2, u⟩ else lk ls j := by
  rw [lk_at _ j (by rw [setUp_len]; exact hj)]
  unfold setUp
  rw [List.getElem_set]
  split
  · rfl
  · rw [lk_at ls j hj]
theorem setUp_ends (ls : List Lk) (i : Nat) (u : Bool) (j : Nat) (hj : j < ls.length) : (lk (setUp ls i u) j).f0 = (lk ls j).f0 ∧ (lk (setUp ls i u) j).f1 = (lk ls j).f1 ∧ (lk (setUp ls i u) j).f2 = (lk ls j).f2 := by
  rw [lk_setUp ls i u j hj]
  split
  · rename_i e; subst e; exact ⟨rfl, rfl, rfl⟩
  · exact ⟨rfl, rfl, rfl⟩
theorem setUp_rt {n : Int} {ls : List Lk} (h : Rt n ls) (i : Nat) (u : Bool) : Rt n (setUp ls i u) := by
  refine ⟨h.1, by rw [setUp_len]; exact h.2.1, fun l hl => ?_⟩
  obtain ⟨j, hj, rfl⟩ := List.getElem_of_mem hl
  rw [← lk_at _ j hj]
  rw [setUp_len] at hj
  have h1 := h.2.2 _ (lk_mem ls j hj)
  obtain ⟨e0, e1, e2⟩ := setUp_ends ls i u j hj
  unfold GoodLk at *
  rw [e0, e1, e2]
  exact h1
theorem set_ok (n : Int) (ls : List Lk) (i : Int) (u : Bool) (hl : ls.length ≤ 64) (h0 : 0 ≤ i) (h1 : i < (ls.length : Int)) : graph_Set.f n ls i u = some (n, setUp ls i.toNat u, 0) := by
  unfold graph_Set.f api_Link_37.f
  rw [if_neg (by omega), if_neg (by omega), if_pos (by omega), bs, if_pos h0, if_pos h1, rd_lki ls i h0]
  rfl
theorem set_out (n : Int) (ls : List Lk) (i : Int) (u : Bool) (h : ¬ (0 ≤ i ∧ i < (ls.length : Int))) : graph_Set.f n ls i u = some (n, ls, 8) := by
  unfold graph_Set.f
  by_cases h1 : i < 0
  · rw [if_pos h1]
  · rw [if_neg h1, if_pos (by omega)]
instance : DecidableEq Lk := fun a b => if h : a.f0 = b.f0 ∧ a.f1 = b.f1 ∧ a.f2 = b.f2 ∧ a.f3 = b.f3 then isTrue (lk_ext h.1 h.2.1 h.2.2.1 h.2.2.2) else isFalse (fun e => h (by subst e; exact ⟨rfl, rfl, rfl, rfl⟩))
theorem eqLk (a b : Lk) : (!(a.f0 == b.f0) || (!(a.f1 == b.f1) || (!(a.f2 == b.f2) || (!(a.f3 == b.f3))))) = decide (a ≠ b) := by
  rw [Bool.eq_iff_iff, decide_eq_true_eq]
  simp only [Bool.or_eq_true, Bool.not_eq_true', beq_eq_false_iff_ne]
  constructor
  · rintro h rfl; simp at h
  · intro h
    by_cases h0 : a.f0 = b.f0
    · by_cases h1 : a.f1 = b.f1
      · by_cases h2 : a.f2 = b.f2
        · exact .inr (.inr (.inr (fun h3 => h (lk_ext h0 h1 h2 h3))))
        · exact .inr (.inr (.inl h2))
      · exact .inr (.inl h1)
    · exact .inl h0
theorem equalLk_l (a b : List Lk) (hl : a.length ≤ 100000) (he : a.length = b.length) : ∀ (d i k : Nat), i + d = a.length → d < k → api_Link_38.l0 k a b (a.length : Int) (i : Int) = some (decide (a.drop i = b.drop i)) := by
  intro d
  induction d with
  | zero =>
    intro i k hi hk
    obtain ⟨k, rfl⟩ : ∃ k', k = k' + 1 := ⟨k - 1, by omega⟩
    rw [api_Link_38.l0, if_neg (by omega), List.drop_of_length_le (by omega), List.drop_of_length_le (by omega)]
    simp
  | succ d ih =>
    intro i k hi hk
    obtain ⟨k, rfl⟩ : ∃ k', k = k' + 1 := ⟨k - 1, by omega⟩
    have hlt : i < a.length := by omega
    rw [api_Link_38.l0, if_pos (by omega), if_pos (by omega), if_pos (by omega), if_pos (by omega), w64 (x := (i : Int) + 1) (by omega), show (i : Int) + 1 = ((i + 1 : Nat) : Int) from rfl, ih (i + 1) k (by omega) (by omega), rd_lk, rd_lk, lk_at a i hlt, lk_at b i (by omega), eqLk, List.drop_eq_getElem_cons hlt, List.drop_eq_getElem_cons (by omega : i < b.length)]
    by_cases h : a[i] = b[i]'(by omega)
    · rw [if_neg (by simp [h])]
      refine congrArg some (decide_eq_decide.2 ?_)
      rw [h]
      exact ⟨fun e => by rw [e], fun e => (List.cons.inj e).2⟩
    · rw [if_pos (by simp [h])]
      exact congrArg some (decide_eq_false (fun e => h (List.cons.inj e).1)).symm
theorem same_ok (n : Int) (a b : List Lk) (k : Nat) (hl : a.length ≤ 1000) (hk : a.length < k) : graph_Same.f k n a n b = some (decide (a = b)) := by
  unfold graph_Same.f api_Link_38.f
  rw [if_pos rfl]
  by_cases h : (a.length : Int) = (b.length : Int)
  · rw [if_pos h]
    have := equalLk_l a b (by omega) (by omega) a.length 0 k (by omega) hk
    rw [show ((0 : Nat) : Int) = 0 from rfl, List.drop_zero, List.drop_zero] at this
    rw [this, bs]
  · rw [if_neg h, bs]
    exact congrArg some (decide_eq_false (fun e => h (by rw [e]))).symm
end Go.Proofs.Yticjabdkjjbegaa.P
