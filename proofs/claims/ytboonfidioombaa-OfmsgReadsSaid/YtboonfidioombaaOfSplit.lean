/- How bytes are taken for messages, and how a stream is split, as plain functions. -/
import Derived.Test.YtboonfidioombaaOfRead
namespace Go.Proofs.Ytboonfidioombaa.P
set_option linter.unusedVariables false
set_option linter.unusedSimpArgs false
open Go.RowKit Go.Proofs.YtboonfidioombaaW.PrintWords Go.Proofs.YtboonfidioombaaW.PrintLast Go.Proofs.YtboonfidioombaaW.PrintMore
def zM : Ms := ⟨0, 0, ⟨0, 0, 0, 0, 0, []⟩, 0, false, []⟩
theorem inner_le {m : Ms} (hr : rightM m = true) : (innerP m).length ≤ 1501 := by
 unfold innerP
 cases right_kinds hr with
 | put h hr hs =>
  have := (rightR_parts hr).len
  rw [if_pos h]
  simp only [List.length_append, fourL_len, twoL_len, List.length_map]
  omega
 | del h ha h3 h4 h5 hs =>
  rw [if_neg (by omega), if_pos h]
  simp only [List.length_append, fourL_len]
  omega
 | bare h hr hs =>
  rw [if_neg (by omega), if_neg (by omega), if_neg (by omega), if_neg (by omega)]
  exact Nat.zero_le _
 | link h hr hp hf =>
  rw [if_neg (by omega), if_neg (by omega), if_pos h]
  simp
 | frame h hr hp hu hl =>
  rw [if_neg (by omega), if_neg (by omega), if_neg (by omega), if_pos h, List.length_cons]
  omega
def decF (l : List Int) : Ms × Int := if (l.length : Int) < 7 ∨ (l.length : Int) < headN l then (zM, 3) else if okR (readL l) = true ∧ (l.length : Int) = headN l ∧ rightM (ofR (readL l)) = true then (ofR (readL l), 0) else (zM, 2)
theorem dec_enc {m : Ms} (hw : WM m) (hr : rightM m = true) : decF (encP m) = (m, 0) := by
 have hl := enc_len m
 have hh := headN_enc m (by have := inner_le hr; omega)
 have he := read_enc hw hr
 unfold decF
 rw [if_neg (by omega), he, if_pos ⟨rfl, hh.symm, hr⟩]
 rfl
theorem dec_ok {l : List Int} (hb : byteL l) (h : (decF l).2 = 0) : rightM (decF l).1 = true ∧ WM (decF l).1 ∧ encP (decF l).1 = l ∧ 7 ≤ l.length ∧ headN l = l.length := by
 unfold decF at h ⊢
 by_cases h1 : (l.length : Int) < 7 ∨ (l.length : Int) < headN l
 ·rw [if_pos h1] at h
  cases h
 ·rw [if_neg h1] at h ⊢
  by_cases h2 : okR (readL l) = true ∧ (l.length : Int) = headN l ∧ rightM (ofR (readL l)) = true
  ·rw [if_pos h2]
   obtain ⟨i1, i2⟩ := enc_read hb (by omega) h2.2.1.symm h2.1 h2.2.2
   exact ⟨h2.2.2, i2, i1, by omega, h2.2.1.symm⟩
  ·rw [if_neg h2] at h
   cases h
def splitF : Nat → List Int → List Ms → List Ms × List Int × Int
 | 0, b, out => (out, b, 0)
 | n + 1, b, out => if (b.length : Int) ≥ 2 then (if (b.length : Int) < headN b then (out, b, 0) else if (decF (b.take (headN b).toNat)).2 = 0 then splitF n (b.drop (headN b).toNat) (out ++ [(decF (b.take (headN b).toNat)).1]) else (out, b, 2)) else (out, b, 0)
def encs (l : List Ms) : List Int := (l.map encP).flatten
end Go.Proofs.Ytboonfidioombaa.P
