/- OfmsgLeft over numbers and lists. -/
import Derived.Test.YtboonfidioombaaStOfmsgLeft
import Derived.Test.YtboonfidioombaaOfDec
namespace Go.Proofs.Ytboonfidioombaa.Pure
set_option linter.unusedVariables false
set_option linter.unusedSimpArgs false
open Go.RowKit Go.Proofs.Ytboonfidioombaa.P Go.Proofs.YtboonfidioombaaW.PrintWords Go.Proofs.YtboonfidioombaaW.PrintLast Go.Proofs.YtboonfidioombaaW.PrintMore
theorem right_small {m : Ms} (h : rightM m = true) : m.f2.f5.length ≤ 128 ∧ m.f5.length ≤ 1500 := by
  cases right_kinds h with
  | put h hr hs => exact ⟨(rightR_parts hr).len, by rw [hs.2.2]; exact Nat.zero_le _⟩
  | del h ha h3 h4 h5 hs => exact ⟨by rw [h5]; exact Nat.zero_le _, by rw [hs.2.2]; exact Nat.zero_le _⟩
  | bare h hr hs => exact ⟨by rw [hr]; exact Nat.zero_le _, by rw [hs.2.2]; exact Nat.zero_le _⟩
  | link h hr hp hf => exact ⟨by rw [hr]; exact Nat.zero_le _, by rw [hf]; exact Nat.zero_le _⟩
  | frame h hr hp hu hl => exact ⟨by rw [hr]; exact Nat.zero_le _, hl⟩
theorem left_loop (b rest : List Int) (ls : List Ms) (hb : byteL b) (hbl : b.length ≤ 3000) (he : encs ls ++ rest = b) (hls : ∀ m ∈ ls, rightM m = true ∧ WM m) (hll : ls.length ≤ 3000) : ∀ (d i k : Nat) (xs : List Int), i + d = ls.length → d + 5000 ≤ k → xs ++ encs (ls.drop i) = encs ls →
    stolonlaw16_OfmsgLeft.l0 k b true ls rest xs (i : Int) = some true := by
  intro d
  induction d with
  | zero =>
    intro i k xs hi hk hx
    obtain ⟨k, rfl⟩ : ∃ j, k = j + 1 := ⟨k - 1, by omega⟩
    rw [List.drop_of_length_le (by omega)] at hx
    have hx : xs = encs ls := by rw [← hx]; simp [P.encs]
    have hlen : (encs ls).length + rest.length = b.length := by rw [← he, List.length_append]
    rw [stolonlaw16_OfmsgLeft.l0, if_neg (by omega), if_pos rfl, hx, if_pos (by omega), he, bsame_ok b b (by omega) k (by omega), fbs, decide_eq_true rfl]
  | succ d ih =>
    intro i k xs hi hk hx
    obtain ⟨k, rfl⟩ : ∃ j, k = j + 1 := ⟨k - 1, by omega⟩
    have h1 : i < ls.length := by omega
    obtain ⟨hr, hw⟩ := hls _ (List.getElem_mem h1)
    have hs := right_small hr
    rw [List.drop_eq_getElem_cons h1, encs_cons, ← List.append_assoc] at hx
    have hlen : (encs ls).length + rest.length = b.length := by rw [← he, List.length_append]
    have hxl : (xs ++ encP (ls[i]'h1)).length ≤ (encs ls).length := by rw [← hx, List.length_append (bs := encs (ls.drop (i + 1)))]; exact Nat.le_add_right _ _
    rw [List.length_append] at hxl
    have := ih (i + 1) k (xs ++ encP (ls[i]'h1)) (by omega) (by omega) hx
    rw [Int.natCast_add] at this
    rw [stolonlaw16_OfmsgLeft.l0, if_pos (by omega), if_pos (by omega), rd_ms ls i h1, encode_ok _ hw (by omega) k (by omega), fbs, hr, if_pos rfl, if_pos rfl, if_pos (by simp only; omega), fw64 (by omega)]
    exact this
theorem OfmsgLeft : stolonlaw16_OfmsgLeft.Pure := by
  intro b hm
  refine ⟨20000, ?_⟩
  unfold stolonlaw16_OfmsgLeft.f
  rw [shown_ok _ (by omega), fbs]
  by_cases h : (b.length : Int) > 3000
  · rw [if_pos h]
  have hb : byteL b := by
    intro y hy
    have := hm.2.2 y hy
    simp [Lit.wf, IntKind.min, IntKind.max, IntKind.signed, IntKind.bits] at this
    omega
  rw [if_neg h, split_ok b hb (by omega) 20000 (by omega), fbs]
  obtain ⟨ls, rest, e, h1, h2, h3, h4⟩ := split_of (b.length + 1) b [] hb
  rw [h1, List.nil_append]
  have := left_loop b rest ls hb (by omega) h2 h3 (by omega) ls.length 0 20000 [] (by omega) (by omega) rfl
  exact this
end Go.Proofs.Ytboonfidioombaa.Pure
