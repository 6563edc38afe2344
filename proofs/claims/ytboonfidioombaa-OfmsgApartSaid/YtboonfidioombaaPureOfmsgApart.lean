/- OfmsgApart over numbers and lists. -/
import Derived.Test.YtboonfidioombaaStOfmsgApart
import Derived.Test.YtboonfidioombaaOfDec
namespace Go.Proofs.Ytboonfidioombaa.Pure
set_option linter.unusedVariables false
set_option linter.unusedSimpArgs false
open Go.RowKit Go.Proofs.Ytboonfidioombaa.P Go.Proofs.YtboonfidioombaaW.PrintWords Go.Proofs.YtboonfidioombaaW.PrintLast Go.Proofs.YtboonfidioombaaW.PrintMore
theorem enc_inj {m n : Ms} (hm : WM m) (hn : WM n) (h1 : rightM m = true) (h2 : rightM n = true) (h : encP m = encP n) : m = n := by
  have a := dec_enc hm h1
  rw [h, dec_enc hn h2] at a
  exact (Prod.mk.inj a).1.symm
theorem OfmsgApart : stolonlaw16_OfmsgApart.Pure := by
  intro m n hm hn
  refine ⟨10000 + 1, ?_⟩
  unfold stolonlaw16_OfmsgApart.f
  rw [shown_ok _ (by omega), fbs]
  have a5 := hm.2.2.1.2.2.2.2.2.1
  have a6 := hm.2.2.2.2.2.1
  have b5 := hn.2.2.1.2.2.2.2.2.1
  have b6 := hn.2.2.2.2.2.1
  have hwm := wm_of hm
  have hwn := wm_of hn
  rw [fw64 (by omega) (x := (m.f5.length : Int) + (m.f2.f5.length : Int)), fw64 (by omega) (x := (m.f5.length : Int) + (m.f2.f5.length : Int) + (n.f5.length : Int)), fw64 (by omega)]
  by_cases h : (m.f5.length : Int) + (m.f2.f5.length : Int) + (n.f5.length : Int) + (n.f2.f5.length : Int) > 3000
  · rw [if_pos h]
  rw [if_neg h, encode_ok m hwm (by omega) _ (by omega), fbs, encode_ok n hwn (by omega) _ (by omega), fbs]
  cases h1 : rightM m with
  | false => rw [if_neg ff, if_neg (by simp), stolonlaw16_OfmsgApart.j0, if_pos rfl]
  | true =>
    cases h2 : rightM n with
    | false => rw [if_pos rfl, if_neg ff, if_pos rfl, stolonlaw16_OfmsgApart.j0, if_pos (show ((([], 1) : List Int × Int).2 != 0) = true from rfl)]
    | true =>
      rw [if_pos rfl, if_pos rfl, if_pos rfl, stolonlaw16_OfmsgApart.j0, if_neg (show ¬ (((encP n, 0) : List Int × Int).2 != 0) = true from ff), if_pos rfl, bsame_ok _ _ (by have := enc_len m; have := inner_le h1; simp only; omega) _ (by have := enc_len m; have := inner_le h1; simp only; omega), fbs, rmsame_ok m n (by omega) (by omega) _ (by omega) (by omega), fbs]
      congr 1
      rw [beq_iff_eq]
      simp only
      by_cases he : m = n
      · rw [decide_eq_true (by rw [he]), sameRef_iff.2 he]
      · rw [decide_eq_false (fun e => he (enc_inj hwm hwn h1 h2 e))]
        cases hs : sameRef m n with
        | false => rfl
        | true => exact absurd (sameRef_iff.1 hs) he
end Go.Proofs.Ytboonfidioombaa.Pure
