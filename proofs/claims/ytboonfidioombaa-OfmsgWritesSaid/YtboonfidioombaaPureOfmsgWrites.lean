/- OfmsgWrites over numbers and lists. -/
import Derived.Test.YtboonfidioombaaStOfmsgWrites
import Derived.Test.YtboonfidioombaaOfRef
namespace Go.Proofs.Ytboonfidioombaa.Pure
set_option linter.unusedVariables false
set_option linter.unusedSimpArgs false
open Go.RowKit Go.Proofs.Ytboonfidioombaa.P Go.Proofs.YtboonfidioombaaW.PrintWords Go.Proofs.YtboonfidioombaaW.PrintLast Go.Proofs.YtboonfidioombaaW.PrintMore
theorem bytes_inj : ∀ (a b : List Int), byteL a → byteL b → Lib.bytesOf a = Lib.bytesOf b → a = b
  | [], [], _, _, _ => rfl
  | x :: a, y :: b, ha, hb, h => by
    rw [byteL_cons] at ha hb
    unfold Lib.bytesOf at h
    rw [List.map_cons, List.map_cons] at h
    obtain ⟨h1, h2⟩ := List.cons.inj h
    have := congrArg UInt8.toNat h1
    rw [UInt8.toNat_ofNat', UInt8.toNat_ofNat'] at this
    rw [bytes_inj a b ha.2 hb.2 h2, show x = y by omega]
  | [], y :: b, _, _, h => by simp [Lib.bytesOf] at h
  | x :: a, [], _, _, h => by simp [Lib.bytesOf] at h
theorem bytesEq_iff {a b : List Int} (ha : byteL a) (hb : byteL b) : bytesEq a b = decide (a = b) := by
  unfold bytesEq
  rw [Lib.strOfNums_toList, Lib.strOfNums_toList]
  by_cases h : a = b
  · rw [h, decide_eq_true rfl, beq_self_eq_true]
  · rw [decide_eq_false h, beq_eq_false_iff_ne.2 (fun e => h (bytes_inj a b ha hb e))]
theorem OfmsgWrites : stolonlaw16_OfmsgWrites.Pure := by
  intro m n hm hn
  refine ⟨10000, ?_⟩
  unfold stolonlaw16_OfmsgWrites.f
  rw [shown_ok _ (by omega), fbs]
  have a5 := hm.2.2.1.2.2.2.2.2.1
  have a6 := hm.2.2.2.2.2.1
  have b5 := hn.2.2.1.2.2.2.2.2.1
  have b6 := hn.2.2.2.2.2.1
  have hwm := wm_of hm
  have hwn := wm_of hn
  rw [fw64 (by omega) (x := (m.f5.length : Int) + (n.f5.length : Int)), fw64 (by omega) (x := (m.f5.length : Int) + (n.f5.length : Int) + (m.f2.f5.length : Int)), fw64 (by omega)]
  by_cases h : (m.f5.length : Int) + (n.f5.length : Int) + (m.f2.f5.length : Int) + (n.f2.f5.length : Int) > 3000
  · rw [if_pos h]
  have hle : (if rightM m = true then (encP m, (0 : Int)) else ([], 1)).1.length ≤ 2000 := by
    cases hr : rightM m with
    | false => rw [if_neg ff]; exact Nat.zero_le _
    | true =>
      have := inner_le hr
      have := enc_len m
      rw [if_pos rfl]
      show (encP m).length ≤ 2000
      omega
  rw [if_neg h, encode_ok m hwm (by omega) _ (by omega), fbs, rencode_ok m hwm (by omega) (by omega) _ (by omega), fbs, if_pos rfl, mright_ok m (by omega) _ (by omega), fbs, rright16_ok m hwm.push.1 (by omega) _ (by omega), fbs, beq_self_eq_true, if_pos rfl, bsame_ok _ _ (by omega) _ (by omega), fbs, decide_eq_true rfl, if_pos rfl, if_pos rfl, msame_ok m n (by omega) _ (by omega), fbs, rmsame_ok m n (by omega) (by omega) _ (by omega) (by omega), fbs]
  congr 1
  rw [beq_iff_eq]
  unfold sameMsg sameRef
  rw [bytesEq_iff hwm.fr hwn.fr]
  generalize (m.f0 == n.f0) = a0
  generalize (m.f1 == n.f1) = a1
  generalize sameB m.f2 n.f2 = a2
  cases a0 <;> cases a1 <;> cases a2 <;> rfl
end Go.Proofs.Ytboonfidioombaa.Pure
