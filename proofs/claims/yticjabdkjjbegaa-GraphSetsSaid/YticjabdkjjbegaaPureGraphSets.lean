/- GraphSets over numbers and lists. -/
import Derived.Test.YticjabdkjjbegaaStGraphSets
import Derived.Test.YticjabdkjjbegaaGrSet
namespace Go.Proofs.Yticjabdkjjbegaa.Pure
set_option linter.unusedVariables false
set_option linter.unusedSimpArgs false
open Go.RowKit Go.Proofs.Yticjabdkjjbegaa.P Go.Proofs.YticjabdkjjbegaaW.PrintWords Go.Proofs.YticjabdkjjbegaaW.PrintLast Go.Proofs.YticjabdkjjbegaaW.PrintMore
theorem setUp_back (ls : List Lk) (i : Nat) (u : Bool) (hi : i < ls.length) : setUp (setUp ls i u) i (lk ls i).f3 = ls := by
  refine List.ext_getElem (by rw [setUp_len, setUp_len]) (fun j h1 h2 => ?_)
  rw [← lk_at _ j h1, ← lk_at ls j h2, lk_setUp _ i _ j (by rw [setUp_len]; exact h2)]
  by_cases e : i = j
  · subst e
    obtain ⟨e0, e1, e2⟩ := setUp_ends ls i u i hi
    rw [if_pos rfl, e0, e1, e2]
  · rw [if_neg e, lk_setUp ls i u j h2, if_neg e]
theorem setUp_same (ls : List Lk) (i : Nat) (u : Bool) (hi : i < ls.length) : setUp ls i u = ls ↔ (lk ls i).f3 = u := by
  constructor
  · intro h
    have h1 := lk_setUp ls i u i hi
    rw [if_pos rfl, h] at h1
    rw [h1]
  · rintro rfl
    refine List.ext_getElem (setUp_len _ _ _) (fun j h1 h2 => ?_)
    rw [← lk_at _ j h1, ← lk_at ls j h2, lk_setUp ls i _ j h2]
    split
    · rename_i e; subst e; rfl
    · rfl
theorem sets_l (n : Int) (ls : List Lk) (m : Nat) (u : Bool) (hl : ls.length ≤ 64) (hm : m < ls.length) : ∀ (d i k : Nat), i + d = ls.length → 100 ≤ k → stolonlaw11_GraphSets.l0 (k + d + 1) (m : Int) u true (i : Int) n ls n (setUp ls m u) = some true := by
  intro d
  induction d with
  | zero =>
    intro i k hi hk
    rw [Nat.add_zero, stolonlaw11_GraphSets.l0, if_neg (by omega), if_pos (by omega), if_pos (by omega), rd_lk, set_ok n _ (m : Int) _ (by rw [setUp_len]; exact hl) (by omega) (by rw [setUp_len]; omega), bs, if_pos rfl, Int.toNat_natCast]
    simp only
    rw [same_ok n _ _ _ (by rw [setUp_len, setUp_len]; omega) (by rw [setUp_len, setUp_len]; omega), bs, if_pos (decide_eq_true (setUp_back ls m u hm)), same_ok n _ _ _ (by rw [setUp_len]; omega) (by rw [setUp_len]; omega), bs]
    refine congrArg some ?_
    rw [beq_iff_eq, Bool.eq_iff_iff, decide_eq_true_eq, setUp_same ls m u hm, beq_iff_eq]
  | succ d ih =>
    intro i k hi hk
    have hlt : i < ls.length := by omega
    rw [show k + (d + 1) + 1 = (k + d + 1) + 1 by omega, stolonlaw11_GraphSets.l0, if_pos (by omega), w64 (x := (i : Int) + 1) (by omega), show (i : Int) + 1 = ((i + 1 : Nat) : Int) from rfl, ih (i + 1) k (by omega) hk]
    by_cases e : (i : Int) = (m : Int)
    · rw [if_pos e]
    · rw [if_neg e, if_pos (by omega), if_pos (by rw [setUp_len]; omega), rd_lk, rd_lk, eqLk, if_neg]
      rw [lk_setUp ls m u i hlt, if_neg (by omega)]
      simp
theorem GraphSets : stolonlaw11_GraphSets.Pure := by
  rintro ⟨n, ls⟩ a u _ _
  refine ⟨998 + ls.length + 1 + 1 + 1, ?_⟩
  unfold stolonlaw11_GraphSets.f
  simp only
  rw [shown_ok _ (by omega), bs, rightR_ok _ _ _ (by omega), bs]
  have yes : stolonlaw11_GraphSets.j0 (998 + ls.length + 1 + 1 + 1) a u true true n ls = some true := by rw [stolonlaw11_GraphSets.j0, if_pos rfl]
  by_cases h : Rt n ls
  · rw [if_pos (decide_eq_true h)]
    by_cases h0 : a < 0
    · rw [if_pos h0]; exact yes
    · rw [if_neg h0]
      by_cases h1 : a ≥ (ls.length : Int)
      · rw [decide_eq_true h1]; exact yes
      · obtain ⟨m, rfl⟩ : ∃ m : Nat, a = m := ⟨a.toNat, by omega⟩
        have hm : m < ls.length := by omega
        rw [decide_eq_false h1, stolonlaw11_GraphSets.j0, if_neg (by simp), set_ok n ls (m : Int) u h.2.1 (by omega) (by omega), bs, Int.toNat_natCast]
        simp only
        rw [if_pos trivial, if_pos (by rw [setUp_len]), if_pos (by omega), if_pos (by rw [setUp_len]; omega), rd_lk, stolonlaw11_GraphSets.j1, if_neg (by rw [lk_setUp ls m u m hm, if_pos rfl]; simp)]
        exact sets_l n ls m u h.2.1 hm ls.length 0 998 (by omega) (by omega)
  · rw [if_neg (by simp [h])]; exact yes
end Go.Proofs.Yticjabdkjjbegaa.Pure
