/- OfmsgBack over numbers and lists. -/
import Derived.Test.YtboonfidioombaaStOfmsgBack
import Derived.Test.YtboonfidioombaaOfDec
namespace Go.Proofs.Ytboonfidioombaa.Pure
set_option linter.unusedVariables false
set_option linter.unusedSimpArgs false
open Go.RowKit Go.Proofs.Ytboonfidioombaa.P Go.Proofs.YtboonfidioombaaW.PrintWords Go.Proofs.YtboonfidioombaaW.PrintLast Go.Proofs.YtboonfidioombaaW.PrintMore
theorem right_low {m : Ms} (h : rightM m = true) : m.f2.f5.length ≤ 128 ∧ m.f5.length ≤ 1500 := by
  cases right_kinds h with
  | put h hr hs => exact ⟨(rightR_parts hr).len, by rw [hs.2.2]; exact Nat.zero_le _⟩
  | del h ha h3 h4 h5 hs => exact ⟨by rw [h5]; exact Nat.zero_le _, by rw [hs.2.2]; exact Nat.zero_le _⟩
  | bare h hr hs => exact ⟨by rw [hr]; exact Nat.zero_le _, by rw [hs.2.2]; exact Nat.zero_le _⟩
  | link h hr hp hf => exact ⟨by rw [hr]; exact Nat.zero_le _, by rw [hf]; exact Nat.zero_le _⟩
  | frame h hr hp hu hl => exact ⟨by rw [hr]; exact Nat.zero_le _, hl⟩
/-- A right message's bytes, short of the last one: more are wanted. -/
theorem dec_short {m : Ms} (hr : rightM m = true) : decF ((encP m).take ((encP m).length - 1)) = (zM, 3) := by
  have hl := enc_len m
  have hh := headN_enc m (by have := inner_le hr; omega)
  generalize encP m = b at hl hh ⊢
  unfold decF
  rw [if_pos]
  right
  have h0 : headN (b.take (b.length - 1)) = headN b := by
    unfold headN
    rw [List.getD_eq_getElem?_getD, List.getD_eq_getElem?_getD, List.getD_eq_getElem?_getD, List.getD_eq_getElem?_getD, List.getElem?_take_of_lt (by omega), List.getElem?_take_of_lt (by omega)]
  rw [h0, hh, List.length_take]
  omega
theorem shown50b : stolonlaw16_shown.f 50000 = some true := by decide +kernel
theorem OfmsgBack : stolonlaw16_OfmsgBack.Pure := by
  intro m l hm hc
  refine ⟨50000, ?_⟩
  have hb : byteL l := fun y hy => by
    have h := hc.2.2 y hy
    simp [Lit.wf, IntKind.min, IntKind.max, IntKind.signed, IntKind.bits] at h
    omega
  have c0 := hc.2.1
  have a5 := hm.2.2.1.2.2.2.2.2.1
  have a6 := hm.2.2.2.2.2.1
  have hw := wm_of hm
  unfold stolonlaw16_OfmsgBack.f
  rw [shown50b, fbs, if_pos rfl, fw64 (by omega) (x := (m.f5.length : Int) + (m.f2.f5.length : Int)), fw64 (by omega)]
  by_cases h : (m.f5.length : Int) + (m.f2.f5.length : Int) + (l.length : Int) > 3000
  · rw [if_pos h]
  rw [if_neg h, decode_ok l hb (by omega) _ (by omega), fbs]
  have hs : (if (decF l).2 = 0 then ((ofmsg_Encode.f 50000 (decF l).1.f0 (decF l).1.f1 (decF l).1.f2.f0 (decF l).1.f2.f1 (decF l).1.f2.f2 (decF l).1.f2.f3 (decF l).1.f2.f4 (decF l).1.f2.f5 (decF l).1.f3 (decF l).1.f4 (decF l).1.f5).bind fun ei => if ei.2 = 0 then stolonref01_Same.f 50000 ei.1 l else none) else some true) = some true := by
    by_cases h0 : (decF l).2 = 0
    · obtain ⟨h1, h2, h3, h4, h5⟩ := dec_ok hb h0
      have hr := right_low h1
      rw [if_pos h0, encode_ok _ h2 (by omega) _ (by omega), fbs, h1, if_pos rfl]
      try dsimp only
      rw [if_pos rfl, h3, bsame_ok _ _ (by omega) _ (by omega), decide_eq_true rfl]
    · rw [if_neg h0]
  dsimp only [toD]
  rw [hs, fbs, if_pos rfl, encode_ok m hw (by omega) _ (by omega), fbs]
  cases h1 : rightM m with
  | false =>
    rw [show (if false = true then ((encP m, 0) : List Int × Int) else ([], 1)) = ([], 1) from if_neg (by simp)]
    refine (if_neg (show ¬ ((1 : Int) = 0) by decide)).trans ?_
    refine (if_pos rfl).trans ?_
    rw [mright_ok m (by omega) _ (by omega), fbs, h1, if_neg (by simp)]
  | true =>
    have hi := inner_le h1
    have hl := enc_len m
    rw [if_pos rfl]
    dsimp only
    rw [if_pos rfl, decode_ok (encP m) (byteL_enc hw h1) (by omega) _ (by omega), fbs, dec_enc hw h1]
    dsimp only [toD]
    rw [if_pos (by omega), fw64 (by omega), if_pos (by omega), show ((encP m).length : Int) - 1 = (((encP m).length - 1 : Nat) : Int) by omega, Int.toNat_natCast]
    have hbt : byteL ((encP m).take ((encP m).length - 1)) := fun y hy => byteL_enc hw h1 y (List.mem_of_mem_take hy)
    have hlt : ((encP m).take ((encP m).length - 1)).length ≤ 2000 := by rw [List.length_take]; omega
    rw [decode_ok _ hbt (by omega) _ (by omega), fbs, dec_short h1]
    dsimp only [toD]
    refine (if_pos rfl).trans ?_
    refine (if_pos rfl).trans ?_
    rw [rmsame_ok m m (by omega) (by omega) _ (by omega) (by omega), fbs, sameRef_iff.2 rfl, if_pos rfl]
end Go.Proofs.Ytboonfidioombaa.Pure
