/- AddrOrder over numbers and lists. -/
import Derived.Test.YtplkfpfgnccffaaDoorStAddrOrder
import Derived.Test.YtplkfpfgnccffaaDoorPureAddrTells
namespace Go.Proofs.YtplkfpfgnccffaaDoor.Pure
set_option linter.unusedVariables false
set_option linter.unusedSimpArgs false
open Go.RowKit Go.Proofs.YtplkfpfgnccffaaDoor.P Go.Proofs.YtplkfpfgnccffaaDoorW.PrintWords Go.Proofs.YtplkfpfgnccffaaDoorW.PrintLast Go.Proofs.YtplkfpfgnccffaaDoorW.PrintMore
theorem nums_data (a b c d : Nat) : (strOfNums [(a : Int), b, c, d]).toList = [UInt8.ofNat a, UInt8.ofNat b, UInt8.ofNat c, UInt8.ofNat d] := by
  rw [ByteArray.toList_eq]
  simp [strOfNums]
theorem less_cons {a b : Nat} (ha : a < 256) (hb : b < 256) (x y : List UInt8) : Op.bytesLess (UInt8.ofNat a :: x) (UInt8.ofNat b :: y) = (decide (a < b) || (decide (a = b) && Op.bytesLess x y)) := by
  rw [Op.bytesLess]
  congr 1
  · rw [decide_eq_decide, UInt8.lt_iff_toNat_lt, UInt8.toNat_ofNat_of_lt' ha, UInt8.toNat_ofNat_of_lt' hb]
  · congr 1
    rw [Bool.eq_iff_iff, beq_iff_eq, decide_eq_true_eq, ← UInt8.toNat_inj, UInt8.toNat_ofNat_of_lt' ha, UInt8.toNat_ofNat_of_lt' hb]
theorem less4 {a b c d a' b' c' d' : Nat} (ha : a < 256) (hb : b < 256) (hc : c < 256) (hd : d < 256) (ha' : a' < 256) (hb' : b' < 256) (hc' : c' < 256) (hd' : d' < 256) :
    Op.bytesLess (strOfNums [(a : Int), b, c, d]).toList (strOfNums [(a' : Int), b', c', d']).toList = decide (valA a b c d < valA a' b' c' d') := by
  rw [nums_data, nums_data, less_cons ha ha', less_cons hb hb', less_cons hc hc', less_cons hd hd']
  simp only [Op.bytesLess, Bool.and_false, Bool.or_false]
  rw [Bool.eq_iff_iff]
  simp only [Bool.or_eq_true, Bool.and_eq_true, decide_eq_true_eq]
  unfold valA
  omega
theorem AddrOrder : stolonlaw01_AddrOrder.Pure := by
  intro x y z hx hy hz
  refine ⟨1002, ?_⟩
  have h0 := u32_of hx
  have h1 := u32_of hy
  have h2 := u32_of hz
  obtain ⟨a, b, c, d, ha, hb, hc, hd, he, h4⟩ := addr_bytes h0.1 h0.2
  obtain ⟨a', b', c', d', ha', hb', hc', hd', he', h4'⟩ := addr_bytes h2.1 h2.2
  unfold stolonlaw01_AddrOrder.f
  rw [shown_ok _ (by omega), Option.bind_some, show addr_Bytes.f x = some (bytes4 x) from rfl, Option.bind_some, show addr_Bytes.f z = some (bytes4 z) from rfl, Option.bind_some, h4, h4', if_pos (by rfl), if_pos (by rfl), show addr_Less.f x z = some (decide (x < z)) from rfl, Option.bind_some, less4 ha hb hc hd ha' hb' hc' hd', ← he, ← he', bne_self_eq_false]
  rw [stolonlaw01_AddrOrder.j0, if_neg (by simp), show addr_Less.f x y = some (decide (x < y)) from rfl, show addr_Less.f y z = some (decide (y < z)) from rfl, Option.bind_some, Option.bind_some]
  have hj : ∀ v : Bool, (v = true → x < y ∧ y < z) → stolonlaw01_AddrOrder.j1 1001 x y z true v = some true := by
    intro v hv
    clear h4 h4' he he'
    rw [stolonlaw01_AddrOrder.j1, group_ok, group_ok, group_ok, local_ok, asked_ok]
    generalize hga : decide (x ≥ 3758096384 ∧ x ≤ 4026531839) = ga
    generalize hgb : decide (y ≥ 3758096384 ∧ y ≤ 4026531839) = gb
    generalize hgc : decide (z ≥ 3758096384 ∧ z ≤ 4026531839) = gc
    generalize hla : decide (x ≥ 3758096384 ∧ x ≤ 3758096639) = la
    generalize hqa : decide (x ≥ 3758096640 ∧ x ≤ 4026531839) = qa
    have c1 : v = true → ga = true → gc = true → gb = true := by
      intro e e1 e2
      have := hv e
      rw [← hga, decide_eq_true_eq] at e1
      rw [← hgc, decide_eq_true_eq] at e2
      rw [← hgb, decide_eq_true_eq]
      omega
    have c2 : la = true → ga = true ∧ qa = false := by
      intro e
      rw [← hla, decide_eq_true_eq] at e
      rw [← hga, ← hqa, decide_eq_true_eq, decide_eq_false_iff_not]
      omega
    have c3 : ga = true → la = !qa := by
      intro e
      rw [← hga, decide_eq_true_eq] at e
      rw [← hla, ← hqa, Bool.eq_iff_iff, Bool.not_eq_true', decide_eq_true_eq, decide_eq_false_iff_not]
      omega
    clear hga hgb hgc hla hqa hv
    revert c1 c2 c3
    cases v <;> cases ga <;> cases gb <;> cases gc <;> cases la <;> cases qa <;> intro c1 c2 c3 <;> first | rfl | (exfalso; revert c1 c2 c3; decide)
  by_cases h : x < y
  · rw [decide_eq_true h, if_pos rfl]
    exact hj _ (fun e => ⟨h, of_decide_eq_true e⟩)
  · rw [decide_eq_false h, if_neg (by simp)]
    exact hj false (fun e => by cases e)
end Go.Proofs.YtplkfpfgnccffaaDoor.Pure
