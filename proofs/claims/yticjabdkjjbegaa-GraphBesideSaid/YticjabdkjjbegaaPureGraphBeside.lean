/- GraphBeside over numbers and lists. -/
import Derived.Test.YticjabdkjjbegaaStGraphBeside
import Derived.Test.YticjabdkjjbegaaGrTree
namespace Go.Proofs.Yticjabdkjjbegaa.Pure
set_option linter.unusedVariables false
set_option linter.unusedSimpArgs false
open Go.RowKit Go.Proofs.Yticjabdkjjbegaa.P Go.Proofs.YticjabdkjjbegaaW.PrintWords Go.Proofs.YticjabdkjjbegaaW.PrintLast Go.Proofs.YticjabdkjjbegaaW.PrintMore
theorem beside_l2 (a : Int) (nx : List Hp) (r : List Int) (many i : Int) (back : List Hp) (n : Int) (ls : List Lk) (u v : Int) (hb : back.length ≤ 64) : ∀ (d j k : Nat) (b : Bool), j + d = back.length → stolonlaw11_GraphBeside.l2 (k + d + 1) a true nx r many i back b (j : Int) n ls u v = if (b || (back.drop j).any (fun x => x.f0 == u && x.f1 == a)) = true then stolonlaw11_GraphBeside.l1 k a true nx r many (wrap64 (i + 1)) n ls else some false := by
  intro d
  induction d with
  | zero =>
    intro j k b hj
    rw [Nat.add_zero, stolonlaw11_GraphBeside.l2, if_neg (by omega), List.drop_of_length_le (by omega)]
    simp
  | succ d ih =>
    intro j k b hj
    have hlt : j < back.length := by omega
    have e : rd_T43 back (j : Int) = back[j] := by
      unfold rd_T43
      rw [Int.toNat_natCast, List.getD_eq_getElem?_getD, List.getElem?_eq_getElem hlt, Option.getD_some]
    rw [show k + (d + 1) + 1 = (k + d + 1) + 1 by omega, stolonlaw11_GraphBeside.l2, if_pos (by omega), w64 (x := (j : Int) + 1) (by omega), show (j : Int) + 1 = ((j + 1 : Nat) : Int) from rfl, List.drop_eq_getElem_cons hlt, List.any_cons]
    cases b with
    | true => rw [if_pos rfl, ih (j + 1) k true (by omega)]; simp only [Bool.true_or]
    | false => rw [if_neg (by simp), if_pos (by omega), ih (j + 1) k _ (by omega), e]; simp only [Bool.false_or]
theorem beside_l1 (n : Int) (ls : List Lk) (a : Int) (h : Rt n ls) : ∀ (d i k : Nat), i + d = (nextTo ls a ls.length).length → 70 * d + 200 ≤ k → stolonlaw11_GraphBeside.l1 k a true (nextTo ls a ls.length) (reachL n ls (upB ls) a) ((nextTo ls a ls.length).length : Int) (i : Int) n ls = some true := by
  have hnl := nextTo_len ls a ls.length
  have hll := h.2.1
  intro d
  induction d with
  | zero =>
    intro i k hi hk
    obtain ⟨k, rfl⟩ : ∃ k', k = k' + 1 := ⟨k - 1, by omega⟩
    rw [stolonlaw11_GraphBeside.l1, if_neg (by omega), if_pos rfl]
    simp
  | succ d ih =>
    intro i k hi hk
    have hlt : i < (nextTo ls a ls.length).length := by omega
    have e : rd_T43 (nextTo ls a ls.length) (i : Int) = (nextTo ls a ls.length)[i] := by
      unfold rd_T43
      rw [Int.toNat_natCast, List.getD_eq_getElem?_getD, List.getElem?_eq_getElem hlt, Option.getD_some]
    obtain ⟨j, hj, hup, ho, h0⟩ := mem_nextTo.1 (List.getElem_mem hlt)
    have hg := h.ends _ (lk_mem ls j hj)
    have hto := over_ends h.ends hj ho
    have hn32 := h.1.2
    have hback := over_back ho (by omega)
    have hab : a = (lk ls j).f0 ∧ (nextTo ls a ls.length)[i].f1 = (lk ls j).f1 ∨ a = (lk ls j).f1 ∧ (nextTo ls a ls.length)[i].f1 = (lk ls j).f0 := by
      unfold overTo at ho
      split at ho
      · rename_i e1; exact .inl ⟨e1, (Option.some.inj ho).symm⟩
      · split at ho
        · rename_i e1; exact .inr ⟨e1, (Option.some.inj ho).symm⟩
        · cases ho
    have hmem : (nextTo ls a ls.length)[i].f1 ∈ reachL n ls (upB ls) a := (mem_reachL h.ends h.1.2 _).2 ⟨by omega, .step j .refl hj hup ho⟩
    have hany : ((nextTo ls (nextTo ls a ls.length)[i].f1 ls.length).drop 0).any (fun x => x.f0 == (nextTo ls a ls.length)[i].f0 && x.f1 == a) = true := by
      rw [List.drop_zero, List.any_eq_true]
      exact ⟨⟨(j : Int), a⟩, mem_nextTo.2 ⟨j, hj, hup, hback, rfl⟩, by rw [h0]; simp⟩
    have hbl := nextTo_len ls (nextTo ls a ls.length)[i].f1 ls.length
    obtain ⟨k, rfl⟩ : ∃ k', k = k' + (nextTo ls (nextTo ls a ls.length)[i].f1 ls.length).length + 1 + 1 + 1 := ⟨k - (nextTo ls (nextTo ls a ls.length)[i].f1 ls.length).length - 3, by omega⟩
    have h2 := beside_l2 a (nextTo ls a ls.length) (reachL n ls (upB ls) a) ((nextTo ls a ls.length).length : Int) (i : Int) (nextTo ls (nextTo ls a ls.length)[i].f1 ls.length) n ls (nextTo ls a ls.length)[i].f0 (nextTo ls a ls.length)[i].f1 (by omega) (nextTo ls (nextTo ls a ls.length)[i].f1 ls.length).length 0 k false (by omega)
    rw [hany, Bool.false_or, if_pos rfl, w64 (x := (i : Int) + 1) (by omega)] at h2
    rw [stolonlaw11_GraphBeside.l1, if_pos (by omega), if_pos (by omega), e]
    rw [if_neg (by omega), if_neg (by omega), if_neg (by omega), if_neg (by omega), if_pos (by omega), if_pos (by omega), h0, rd_lk, w64 (by omega), w64 (by omega), if_pos (by omega), in_ok _ _ _ (by have := reachL_le n ls (upB ls) a; omega) (by have := reachL_le n ls (upB ls) a; omega), bs, decide_eq_true hmem, Bool.not_true, stolonlaw11_GraphBeside.j2, if_neg (by simp), next_ok n ls _ _ hll (by omega), bs]
    rw [h0] at h2
    refine Eq.trans h2 (ih (i + 1) k (by omega) (by omega))
theorem beside_l0 (n : Int) (ls : List Lk) (a : Int) (h : Rt n ls) (r : List Int) (nx : List Hp) : ∀ (d i k : Nat), i + d = ls.length → stolonlaw11_GraphBeside.l0 (k + d + 1) a true nx r ((nextTo ls a i).length : Int) (i : Int) n ls = stolonlaw11_GraphBeside.l1 k a true nx r ((nextTo ls a ls.length).length : Int) 0 n ls := by
  have hll := h.2.1
  intro d
  induction d with
  | zero =>
    intro i k hi
    obtain rfl : i = ls.length := by omega
    rw [Nat.add_zero, stolonlaw11_GraphBeside.l0, if_neg (by omega)]
  | succ d ih =>
    intro i k hi
    have h1 := ih (i + 1) k (by omega)
    have hnl := nextTo_len ls a i
    rw [nextTo_succ, List.length_append] at h1
    rw [show k + (d + 1) + 1 = (k + d + 1) + 1 by omega, stolonlaw11_GraphBeside.l0, if_pos (by omega), if_pos (by omega), rd_lk, w64 (x := (i : Int) + 1) (by omega), show (i : Int) + 1 = ((i + 1 : Nat) : Int) from rfl, w64 (x := ((nextTo ls a i).length : Int) + 1) (by omega)]
    unfold hopAt at h1
    by_cases hu : (lk ls i).f3 = true
    · rw [if_pos hu] at h1 ⊢
      unfold overTo at h1
      by_cases h2 : (lk ls i).f0 = a
      · rw [if_pos h2]
        rw [if_pos h2.symm] at h1
        exact h1
      · rw [if_neg h2]
        rw [if_neg (fun e => h2 e.symm)] at h1
        by_cases h3 : (lk ls i).f1 = a
        · rw [if_pos h3]
          rw [if_pos h3.symm] at h1
          exact h1
        · rw [if_neg h3]
          rw [if_neg (fun e => h3 e.symm)] at h1
          exact h1
    · rw [if_neg hu] at h1 ⊢
      exact h1
theorem GraphBeside : stolonlaw11_GraphBeside.Pure := by
  rintro ⟨n, ls⟩ a _ _
  refine ⟨9000 + ls.length + 1, ?_⟩
  unfold stolonlaw11_GraphBeside.f
  simp only
  rw [shown_ok _ (by omega), bs, rightR_ok _ _ _ (by omega), bs]
  by_cases h : Rt n ls
  · have hll := h.2.1
    have hnl := nextTo_len ls a ls.length
    rw [if_pos (decide_eq_true h), next_ok n ls a _ hll (by omega), bs, reach_ok n ls a h, bs]
    refine Eq.trans (beside_l0 n ls a h (reachL n ls (upB ls) a) (nextTo ls a ls.length) ls.length 0 9000 (by omega)) ?_
    exact beside_l1 n ls a h (nextTo ls a ls.length).length 0 9000 (by omega) (by omega)
  · rw [if_neg (by simp [h])]
end Go.Proofs.Yticjabdkjjbegaa.Pure
