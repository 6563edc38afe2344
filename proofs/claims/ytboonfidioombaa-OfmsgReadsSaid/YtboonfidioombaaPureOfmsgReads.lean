/- OfmsgReads over numbers and lists. -/
import Derived.Test.YtboonfidioombaaStOfmsgReads
import Derived.Test.YtboonfidioombaaOfReads
import Derived.Test.YtboonfidioombaaOfMsgs
namespace Go.Proofs.Ytboonfidioombaa.Pure
set_option linter.unusedVariables false
set_option linter.unusedSimpArgs false
open Go.RowKit Go.Proofs.Ytboonfidioombaa.P Go.Proofs.YtboonfidioombaaW.PrintWords Go.Proofs.YtboonfidioombaaW.PrintLast Go.Proofs.YtboonfidioombaaW.PrintMore
theorem right_small {m : Ms} (h : rightM m = true) : m.f2.f5.length ≤ 128 ∧ m.f5.length ≤ 1500 := by
  cases right_kinds h with
  | put h hr hs => exact ⟨(rightR_parts hr).len, by rw [hs.2.2]; exact Nat.zero_le _⟩
  | del h ha h3 h4 h5 hs => exact ⟨by rw [h5]; exact Nat.zero_le _, by rw [hs.2.2]; exact Nat.zero_le _⟩
  | bare h hr hs => exact ⟨by rw [hr]; exact Nat.zero_le _, by rw [hs.2.2]; exact Nat.zero_le _⟩
  | link h hr hp hf => exact ⟨by rw [hr]; exact Nat.zero_le _, by rw [hf]; exact Nat.zero_le _⟩
  | frame h hr hp hu hl => exact ⟨by rw [hr]; exact Nat.zero_le _, hl⟩
theorem dec_small {l : List Int} (hb : byteL l) : (decF l).1.f2.f5.length ≤ 4000 ∧ (decF l).1.f5.length ≤ 4000 := by
  by_cases h : (decF l).2 = 0
  · have := right_small (dec_ok hb h).1
    omega
  · unfold decF at h ⊢
    split
    · exact ⟨Nat.zero_le _, Nat.zero_le _⟩
    · rename_i h1
      rw [if_neg h1] at h
      split
      · rename_i h2
        rw [if_pos h2] at h
        exact absurd rfl h
      · exact ⟨Nat.zero_le _, Nat.zero_le _⟩
theorem shown50 : stolonlaw16_shown.f 50000 = some true := by decide +kernel
theorem OfmsgReads : stolonlaw16_OfmsgReads.Pure := by
  intro l hc
  refine ⟨50000, ?_⟩
  have hb : byteL l := fun y hy => by
    have h := hc.2.2 y hy
    simp [Lit.wf, IntKind.min, IntKind.max, IntKind.signed, IntKind.bits] at h
    omega
  unfold stolonlaw16_OfmsgReads.f
  rw [shown50, fbs]
  by_cases h : (l.length : Int) > 3000
  · rw [if_pos h]
  rw [if_neg h]
  obtain ⟨d1, d2⟩ := dec_small hb
  obtain ⟨s1, s2, s3⟩ := splitF_all (l.length + 1) l [] hb
  have hm := rmsame_ok (decF l).1 (decF l).1 (by omega) (by omega) 50000 (by omega) (by omega)
  have hm' : stolonref16_Same.f 50000 (toD (decF l)).1 (toD (decF l)).2.1 (toD (decF l)).2.2.1 (toD (decF l)).2.2.2.1 (toD (decF l)).2.2.2.2.1 (toD (decF l)).2.2.2.2.2.1 (toD (decF l)).2.2.2.2.2.2.1 (toD (decF l)).2.2.2.2.2.2.2.1 (toD (decF l)).2.2.2.2.2.2.2.2.1 (toD (decF l)).2.2.2.2.2.2.2.2.2.1 (toD (decF l)).2.2.2.2.2.2.2.2.2.2.1 (toD (decF l)).1 (toD (decF l)).2.1 (toD (decF l)).2.2.1 (toD (decF l)).2.2.2.1 (toD (decF l)).2.2.2.2.1 (toD (decF l)).2.2.2.2.2.1 (toD (decF l)).2.2.2.2.2.2.1 (toD (decF l)).2.2.2.2.2.2.2.1 (toD (decF l)).2.2.2.2.2.2.2.2.1 (toD (decF l)).2.2.2.2.2.2.2.2.2.1 (toD (decF l)).2.2.2.2.2.2.2.2.2.2.1 = some (sameRef (decF l).1 (decF l).1) := hm
  rw [decode_ok l hb (by omega) _ (by omega), fbs, rdecode_ok l hb (by omega) _ (by omega), fbs, split_ok l hb (by omega) _ (by omega), fbs, rsplit_ok l hb (by omega) _ (by omega), fbs, if_pos rfl, hm', fbs, sameRef_iff.2 rfl, if_pos rfl, if_pos rfl]
  have s2' : (splitF (l.length + 1) l []).1.length ≤ l.length + 1 := by rw [List.length_nil] at s2; omega
  rw [msgs_refl _ (by omega) (fun m hm => by
    rcases s1 m hm with h | h
    · cases h
    · have := right_small h; omega) _ (by omega), fbs, if_pos rfl, bsame_ok _ _ (by omega) _ (by omega), fbs, decide_eq_true rfl, if_pos rfl]
  congr 1
  rw [beq_iff_eq]
end Go.Proofs.Ytboonfidioombaa.Pure
