/- OfmsgLong over numbers and lists. -/
import Derived.Test.YtboonfidioombaaStOfmsgLong
import Derived.Test.YtboonfidioombaaOfDec
namespace Go.Proofs.Ytboonfidioombaa.Pure
set_option linter.unusedVariables false
set_option linter.unusedSimpArgs false
open Go.RowKit Go.Proofs.Ytboonfidioombaa.P Go.Proofs.YtboonfidioombaaW.PrintWords Go.Proofs.YtboonfidioombaaW.PrintLast Go.Proofs.YtboonfidioombaaW.PrintMore
theorem OfmsgLong : stolonlaw16_OfmsgLong.Pure := by
  intro m hm
  refine ⟨10000, ?_⟩
  unfold stolonlaw16_OfmsgLong.f
  rw [shown_ok _ (by omega), fbs]
  have hl5 := hm.2.2.1.2.2.2.2.2.1
  have hl6 := hm.2.2.2.2.2.1
  have hw := wm_of hm
  rw [fw64 (by omega)]
  by_cases h : (m.f5.length : Int) + (m.f2.f5.length : Int) > 3000
  · rw [if_pos h]
  rw [if_neg h, encode_ok m hw (by omega) 10000 (by omega), fbs]
  cases hr : rightM m with
  | false => rfl
  | true =>
    have hi := inner_le hr
    have hle := enc_len m
    rw [if_pos rfl]
    simp only
    have e : ∀ (i : Nat) (x : Int), (encP m)[i]? = some x → rd (encP m) (i : Int) = x := by
      intro i x hx
      unfold rd
      rw [Int.toNat_natCast, List.getD_eq_getElem?_getD, hx, Option.getD_some]
    have hx := hw.xid
    have e0 := e 0 ((7 + ((innerP m).length : Int)) / 256 % 256) rfl
    have e1 := e 1 ((7 + ((innerP m).length : Int)) % 256) rfl
    have e2 := e 2 m.f0 rfl
    have e3 := e 3 (m.f1 / 16777216 % 256) rfl
    have e4 := e 4 (m.f1 / 65536 % 256) rfl
    have e5 := e 5 (m.f1 / 256 % 256) rfl
    have e6 := e 6 (m.f1 % 256) rfl
    simp only [Int.natCast_zero, show ((0 : Nat) : Int) = 0 from rfl, show ((1 : Nat) : Int) = 1 from rfl, show ((2 : Nat) : Int) = 2 from rfl, show ((3 : Nat) : Int) = 3 from rfl, show ((4 : Nat) : Int) = 4 from rfl, show ((5 : Nat) : Int) = 5 from rfl, show ((6 : Nat) : Int) = 6 from rfl] at e0 e1 e2 e3 e4 e5 e6
    rw [if_pos trivial, if_neg (by omega), if_pos (by omega), if_pos (by omega), if_pos (by omega), if_pos (by omega), if_pos trivial, if_pos (by omega), if_pos (by omega), e0, e1, fw64 (by omega) (x := (7 + ((innerP m).length : Int)) / 256 % 256), fw64 (by omega) (x := (7 + ((innerP m).length : Int)) / 256 % 256 * 256), fw64 (by omega) (x := (7 + ((innerP m).length : Int)) % 256), fw64 (by omega), if_pos (by omega), if_pos (by omega), e2, if_pos rfl, e3, e4, e5, e6]
    congr 1
    rw [beq_iff_eq]
    omega
end Go.Proofs.Ytboonfidioombaa.Pure
