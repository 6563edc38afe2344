/- OfmsgStreams over numbers and lists. -/
import Derived.Test.YtboonfidioombaaStOfmsgStreams
import Derived.Test.YtboonfidioombaaOfDec
import Derived.Test.YtboonfidioombaaOfMsgs
namespace Go.Proofs.Ytboonfidioombaa.Pure
set_option linter.unusedVariables false
set_option linter.unusedSimpArgs false
open Go.RowKit Go.Proofs.Ytboonfidioombaa.P Go.Proofs.YtboonfidioombaaW.PrintWords Go.Proofs.YtboonfidioombaaW.PrintLast Go.Proofs.YtboonfidioombaaW.PrintMore
theorem right_small {m : Ms} (h : rightM m = true) : m.f2.f5.length ≤ 128 ∧ m.f5.length ≤ 1500 := by
  cases right_kinds h with
  | put h hr hs => exact ⟨(rightR_parts hr).len, by rw [hs.2.2]; exact Nat.zero_le _⟩
  | del h ha h3 h4 h5 hs => exact ⟨by rw [h5]; exact Nat.zero_le _, by rw [hs.2.2]; exact Nat.zero_le _⟩
  | bare h hr hs => exact ⟨by rw [hr]; exact Nat.zero_le _, by rw [hs.2.2]; exact Nat.zero_le _⟩
  | link h hr hp hf => exact ⟨by rw [hr]; exact Nat.zero_le _, by rw [hf]; exact Nat.zero_le _⟩
  | frame h hr hp hu hl => exact ⟨by rw [hr]; exact Nat.zero_le _, hl⟩
theorem encs_len : ∀ (l : List Ms), (∀ m ∈ l, rightM m = true ∧ WM m) → l.length * 7 ≤ (encs l).length ∧ (encs l).length ≤ l.length * 1508 ∧ byteL (encs l)
  | [], _ => ⟨by simp, by simp [P.encs], fun y h => by cases h⟩
  | m :: l, h => by
    obtain ⟨hr, hw⟩ := h m List.mem_cons_self
    obtain ⟨h1, h2, h3⟩ := encs_len l (fun x hx => h x (List.mem_cons_of_mem _ hx))
    have hl := enc_len m
    have hi := inner_le hr
    rw [encs_cons, List.length_append, List.length_cons, byteL_app]
    exact ⟨by omega, by omega, byteL_enc hw hr, h3⟩
theorem encs_app (a b : List Ms) : encs (a ++ b) = encs a ++ encs b := by unfold P.encs; rw [List.map_append, List.flatten_append]
theorem end_ok (l : List Ms) (cut : Int) (hl : l.length ≤ 30) (h : ∀ m ∈ l, rightM m = true ∧ WM m) (k : Nat) (hk : 100000 ≤ k) : stolonlaw16_OfmsgStreams.l0 (k + 1) l cut true (encs l) (l.length : Int) = some true := by
  obtain ⟨e1, e2, e3⟩ := encs_len l h
  obtain ⟨K, hK, hKl⟩ : ∃ K : Nat, mn (mx cut 0) ((encs l).length : Int) = (K : Int) ∧ K ≤ (encs l).length := ⟨(mn (mx cut 0) ((encs l).length : Int)).toNat, by unfold mn mx; split <;> split <;> omega, by unfold mn mx; split <;> split <;> omega⟩
  obtain ⟨j, t, h1, h2, h3⟩ := encs_cut l K h hKl
  have hA : ∀ m ∈ l.take j, rightM m = true ∧ WM m := fun m hm => h m (List.mem_of_mem_take hm)
  have hB : ∀ m ∈ l.drop j, rightM m = true ∧ WM m := fun m hm => h m (List.mem_of_mem_drop hm)
  obtain ⟨a1, a2, a3⟩ := encs_len _ hA
  obtain ⟨b1, b2, b3⟩ := encs_len _ hB
  have hlen1 : ((encs l).take K).length = K := by rw [List.length_take]; omega
  have hlen2 : ((encs l).drop K).length = (encs l).length - K := List.length_drop
  have hj : (l.take j).length ≤ 30 := by rw [List.length_take]; omega
  have hj2 : (l.drop j).length ≤ 30 := by rw [List.length_drop]; omega
  have t1 : t.length ≤ K := by
    have := congrArg List.length h1
    rw [hlen1, List.length_append] at this
    omega
  have s1 : ofmsg_Split.f k ((encs l).take K) = some (l.take j, t, 0) := by
    rw [split_ok _ (fun y hy => e3 y (List.mem_of_mem_take hy)) (by omega) k (by omega)]
    have := split_encs (l.take j) t [] (((encs l).take K).length + 1) hA h3 (by
      have := congrArg List.length h1
      rw [List.length_append] at this
      omega)
    rw [← h1] at this
    rw [this]
    rfl
  have s2 : ofmsg_Split.f k (t ++ (encs l).drop K) = some (l.drop j, [], 0) := by
    rw [h2, split_ok _ b3 (by omega) k (by omega)]
    have := split_encs (l.drop j) [] [] ((encs (l.drop j)).length + 1) hB (.inl (by simp)) (by omega)
    rw [List.append_nil] at this
    rw [this]
    rfl
  rw [stolonlaw16_OfmsgStreams.l0, if_neg (by omega), hK, if_pos (by omega), if_pos (by omega), Int.toNat_natCast, s1, fbs, fbs, if_pos (by simp only [List.length_nil]; omega), fbs, fbs, if_pos (by simp only [List.nil_append]; omega), List.nil_append, s2, fbs, if_pos rfl, if_pos rfl, if_pos rfl]
  simp only [List.length_nil, Int.natCast_zero, if_true, fbs, List.nil_append]
  rw [if_pos (by omega), if_pos (by omega), List.take_append_drop, msgs_refl l (by omega) (fun m hm => by have := right_small (h m hm).1; omega) k (by omega), fbs]
theorem loop_ok (l : List Ms) (cut : Int) (hl : l.length ≤ 30) (hw : ∀ m ∈ l, WM m) (hs : ∀ m ∈ l, m.f5.length ≤ 140737488351232 ∧ m.f2.f5.length ≤ 140737488351232) : ∀ (d i k : Nat), i + d = l.length → d + 100001 ≤ k → (∀ m ∈ l.take i, rightM m = true) →
    stolonlaw16_OfmsgStreams.l0 k l cut true (encs (l.take i)) (i : Int) = some true := by
  intro d
  induction d with
  | zero =>
    intro i k hi hk hr
    obtain ⟨k, rfl⟩ : ∃ j, k = j + 1 := ⟨k - 1, by omega⟩
    rw [List.take_of_length_le (by omega)] at hr ⊢
    rw [show i = l.length by omega]
    exact end_ok l cut hl (fun m hm => ⟨hr m hm, hw m hm⟩) k (by omega)
  | succ d ih =>
    intro i k hi hk hr
    obtain ⟨k, rfl⟩ : ∃ j, k = j + 1 := ⟨k - 1, by omega⟩
    have h1 : i < l.length := by omega
    have hm := List.getElem_mem h1
    have hss := hs _ hm
    rw [stolonlaw16_OfmsgStreams.l0, if_pos (by omega), if_pos (by omega), rd_ms l i h1]
    generalize hg : l[i]'h1 = m at hm hss ⊢
    rw [fw64 (by omega)]
    by_cases h2 : (m.f5.length : Int) + (m.f2.f5.length : Int) > 3000
    · rw [if_pos h2]
    rw [if_neg h2, encode_ok m (hw m hm) (by omega) k (by omega), fbs]
    cases h3 : rightM m with
    | false => rfl
    | true =>
      have htk : l.take (i + 1) = l.take i ++ [m] := by rw [List.take_succ_eq_append_getElem h1, hg]
      have hr2 : ∀ x ∈ l.take (i + 1), rightM x = true := by
        intro x hx
        rw [htk] at hx
        rcases List.mem_append.1 hx with hx | hx
        · exact hr x hx
        · rw [List.mem_singleton.1 hx]; exact h3
      obtain ⟨a1, a2, a3⟩ := encs_len (l.take i) (fun x hx => ⟨hr x hx, hw x (List.mem_of_mem_take hx)⟩)
      have hlt : (l.take i).length ≤ 30 := by rw [List.length_take]; omega
      have := ih (i + 1) k (by omega) (by omega) hr2
      rw [htk, encs_app, Int.natCast_add] at this
      have h4 := enc_len m
      have h5 := inner_le h3
      rw [if_pos rfl, if_pos rfl, if_pos (by simp only; omega), fw64 (by omega)]
      have he : encs [m] = encP m := by unfold P.encs; simp
      rw [he] at this
      exact this
theorem OfmsgStreams : stolonlaw16_OfmsgStreams.Pure := by
  intro l cut hm hc
  refine ⟨200000, ?_⟩
  unfold stolonlaw16_OfmsgStreams.f
  rw [shown_ok _ (by omega), fbs]
  by_cases h : (l.length : Int) > 30
  · rw [if_pos h]
  rw [if_neg h]
  exact loop_ok l cut (by omega) (fun m hx => wm_of (hm.2.2 m hx)) (fun m hx => by
    have h0 := hm.2.2 m hx
    have h1 := h0.2.2.1.2.2.2.2.2.1
    have h2 := h0.2.2.2.2.2.1
    omega) l.length 0 200000 (by omega) (by omega) (fun m hx => by cases hx)
end Go.Proofs.Ytboonfidioombaa.Pure
