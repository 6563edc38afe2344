/- How bytes are taken for messages, and how a stream is split, as plain functions. -/
import Derived.Test.YtboonfidioombaaOfRead
namespace Go.Proofs.Ytboonfidioombaa.P
set_option linter.unusedVariables false
set_option linter.unusedSimpArgs false
open Go.RowKit Go.Proofs.YtboonfidioombaaW.PrintWords Go.Proofs.YtboonfidioombaaW.PrintLast Go.Proofs.YtboonfidioombaaW.PrintMore
def zM : Ms := ⟨0, 0, ⟨0, 0, 0, 0, 0, []⟩, 0, false, []⟩
theorem inner_le {m : Ms} (hr : rightM m = true) : (innerP m).length ≤ 1501 := by
 unfold innerP
 cases right_kinds hr with
 | put h hr hs =>
  have := (rightR_parts hr).len
  rw [if_pos h]
  simp only [List.length_append, fourL_len, twoL_len, List.length_map]
  omega
 | del h ha h3 h4 h5 hs =>
  rw [if_neg (by omega), if_pos h]
  simp only [List.length_append, fourL_len]
  omega
 | bare h hr hs =>
  rw [if_neg (by omega), if_neg (by omega), if_neg (by omega), if_neg (by omega)]
  exact Nat.zero_le _
 | link h hr hp hf =>
  rw [if_neg (by omega), if_neg (by omega), if_pos h]
  simp
 | frame h hr hp hu hl =>
  rw [if_neg (by omega), if_neg (by omega), if_neg (by omega), if_pos h, List.length_cons]
  omega
theorem byteL_inner {m : Ms} (hw : WM m) (hr : rightM m = true) : byteL (innerP m) := by
 unfold innerP
 cases right_kinds hr with
 | put h hr hs =>
  rw [if_pos h]
  simp only [byteL_app]
  exact ⟨byteL_four _, byteL_four _, byteL_four _, byteL_two _, byteL_four _, byteL_two _, (rightR_parts hr).bytes⟩
 | del h ha h3 h4 h5 hs =>
  rw [if_neg (by omega), if_pos h]
  simp only [byteL_app]
  exact ⟨byteL_four _, byteL_four _, byteL_four _⟩
 | bare h hr hs =>
  rw [if_neg (by omega), if_neg (by omega), if_neg (by omega), if_neg (by omega)]
  exact fun y h => by cases h
 | link h hr hp hf =>
  rw [if_neg (by omega), if_neg (by omega), if_pos h, byteL_cons, byteL_cons]
  exact ⟨by omega, by split <;> omega, fun y h => by cases h⟩
 | frame h hr hp hu hl =>
  rw [if_neg (by omega), if_neg (by omega), if_neg (by omega), if_pos h, byteL_cons]
  exact ⟨by omega, hw.fr⟩
theorem byteL_enc {m : Ms} (hw : WM m) (hr : rightM m = true) : byteL (encP m) := by
 unfold encP
 simp only [byteL_app]
 exact ⟨byteL_two _, byteL_cons.2 ⟨hw.kd, fun y h => by cases h⟩, byteL_four _, byteL_inner hw hr⟩
def decF (l : List Int) : Ms × Int := if (l.length : Int) < 7 ∨ (l.length : Int) < headN l then (zM, 3) else if okR (readL l) = true ∧ (l.length : Int) = headN l ∧ rightM (ofR (readL l)) = true then (ofR (readL l), 0) else (zM, 2)
theorem dec_enc {m : Ms} (hw : WM m) (hr : rightM m = true) : decF (encP m) = (m, 0) := by
 have hl := enc_len m
 have hh := headN_enc m (by have := inner_le hr; omega)
 have he := read_enc hw hr
 unfold decF
 rw [if_neg (by omega), he, if_pos ⟨rfl, hh.symm, hr⟩]
 rfl
theorem dec_ok {l : List Int} (hb : byteL l) (h : (decF l).2 = 0) : rightM (decF l).1 = true ∧ WM (decF l).1 ∧ encP (decF l).1 = l ∧ 7 ≤ l.length ∧ headN l = l.length := by
 unfold decF at h ⊢
 by_cases h1 : (l.length : Int) < 7 ∨ (l.length : Int) < headN l
 ·rw [if_pos h1] at h
  cases h
 ·rw [if_neg h1] at h ⊢
  by_cases h2 : okR (readL l) = true ∧ (l.length : Int) = headN l ∧ rightM (ofR (readL l)) = true
  ·rw [if_pos h2]
   obtain ⟨i1, i2⟩ := enc_read hb (by omega) h2.2.1.symm h2.1 h2.2.2
   exact ⟨h2.2.2, i2, i1, by omega, h2.2.1.symm⟩
  ·rw [if_neg h2] at h
   cases h
theorem dec_cases (l : List Int) : ((decF l).2 = 0) ∨ (decF l = (zM, 3) ∧ ((l.length : Int) < 7 ∨ (l.length : Int) < headN l)) ∨ (decF l = (zM, 2) ∧ ¬ ((l.length : Int) < 7 ∨ (l.length : Int) < headN l)) := by
 unfold decF
 by_cases h1 : (l.length : Int) < 7 ∨ (l.length : Int) < headN l
 ·exact .inr (.inl ⟨if_pos h1, h1⟩)
 ·by_cases h2 : okR (readL l) = true ∧ (l.length : Int) = headN l ∧ rightM (ofR (readL l)) = true
  ·left
   rw [if_neg h1, if_pos h2]
  ·exact .inr (.inr ⟨by rw [if_neg h1, if_neg h2], h1⟩)
theorem dec_cut {m : Ms} (hw : WM m) (hr : rightM m = true) {k : Nat} (hk : k < (encP m).length) : decF ((encP m).take k) = (zM, 3) := by
 have hl := enc_len m
 have hh := headN_enc m (by have := inner_le hr; omega)
 have hlt : ((encP m).take k).length = k := by rw [List.length_take]; omega
 unfold decF
 rw [if_pos ?_]
 by_cases h : k < 7
 ·left; omega
 ·right
  have : headN ((encP m).take k) = headN (encP m) := by
   unfold headN
   rw [List.getD_eq_getElem?_getD, List.getD_eq_getElem?_getD, List.getElem?_take, List.getElem?_take, if_pos (by omega), if_pos (by omega), ← List.getD_eq_getElem?_getD, ← List.getD_eq_getElem?_getD]
  rw [this]
  omega
def splitF : Nat → List Int → List Ms → List Ms × List Int × Int
 | 0, b, out => (out, b, 0)
 | n + 1, b, out => if (b.length : Int) ≥ 2 then (if (b.length : Int) < headN b then (out, b, 0) else if (decF (b.take (headN b).toNat)).2 = 0 then splitF n (b.drop (headN b).toNat) (out ++ [(decF (b.take (headN b).toNat)).1]) else (out, b, 2)) else (out, b, 0)
def encs (l : List Ms) : List Int := (l.map encP).flatten
theorem encs_cons (m : Ms) (l : List Ms) : encs (m :: l) = encP m ++ encs l := rfl
def short (t : List Int) : Prop := (t.length : Int) < 2 ∨ (t.length : Int) < headN t
theorem headN_app {a : List Int} (b : List Int) (h : 2 ≤ a.length) : headN (a ++ b) = headN a := by
 unfold headN
 rw [List.getD_eq_getElem?_getD, List.getD_eq_getElem?_getD, List.getElem?_append_left (by omega), List.getElem?_append_left (by omega), ← List.getD_eq_getElem?_getD, ← List.getD_eq_getElem?_getD]
theorem split_encs : ∀ (ms : List Ms) (t : List Int) (out : List Ms) (n : Nat), (∀ m ∈ ms, rightM m = true ∧ WM m) → short t → ms.length < n → splitF n (encs ms ++ t) out = (out ++ ms, t, 0)
 | [], t, out, n, _, ht, hn => by
  obtain ⟨n, rfl⟩ : ∃ k, n = k + 1 := ⟨n - 1, by omega⟩
  rw [List.append_nil]
  show splitF (n + 1) t out = _
  rw [splitF]
  rcases ht with h | h
  ·rw [if_neg (by omega)]
  ·by_cases h2 : (t.length : Int) ≥ 2
   ·rw [if_pos h2, if_pos h]
   ·rw [if_neg h2]
 | m :: ms, t, out, n, hm, ht, hn => by
  rw [List.length_cons] at hn
  obtain ⟨n, rfl⟩ : ∃ k, n = k + 1 := ⟨n - 1, by omega⟩
  obtain ⟨hr, hw⟩ := hm m List.mem_cons_self
  have hl := enc_len m
  have hh := headN_enc m (by have := inner_le hr; omega)
  rw [encs_cons, List.append_assoc, splitF, headN_app _ (by omega), hh, Int.toNat_natCast, List.take_left, List.drop_left, dec_enc hw hr, if_pos (by rw [List.length_append]; omega), if_neg (by rw [List.length_append]; omega), if_pos rfl, split_encs ms t _ n (fun x hx => hm x (List.mem_cons_of_mem _ hx)) ht (by omega), List.append_assoc]
  rfl
theorem split_of : ∀ (n : Nat) (b : List Int) (out : List Ms), byteL b → ∃ ls rest e, splitF n b out = (out ++ ls, rest, e) ∧ encs ls ++ rest = b ∧ (∀ m ∈ ls, rightM m = true ∧ WM m) ∧ ls.length * 7 + rest.length ≤ b.length
 | 0, b, out, _ => ⟨[], b, 0, (by rw [List.append_nil]; rfl), rfl, (fun m h => by cases h), by simp⟩
 | n + 1, b, out, hb => by
  have stop : ∀ e : Int, ∃ ls rest e', (out, b, e) = (out ++ ls, rest, e') ∧ encs ls ++ rest = b ∧ (∀ m ∈ ls, rightM m = true ∧ WM m) ∧ ls.length * 7 + rest.length ≤ b.length :=
   fun e => ⟨[], b, e, by rw [List.append_nil], rfl, (fun m h => by cases h), by simp⟩
  rw [splitF]
  split
  ·split
   ·exact stop 0
   ·split
    ·rename_i h1 h2 h3
     obtain ⟨i1, i2, i3, i4, i5⟩ := dec_ok (fun y hy => hb y (List.mem_of_mem_take hy)) h3
     obtain ⟨ls, rest, e, j1, j2, j3, j4⟩ := split_of n (b.drop (headN b).toNat) (out ++ [(decF (b.take (headN b).toNat)).1]) (fun y hy => hb y (List.mem_of_mem_drop hy))
     refine ⟨(decF (b.take (headN b).toNat)).1 :: ls, rest, e, ?_, ?_, ?_, ?_⟩
     ·rw [j1, List.append_assoc]
      rfl
     ·rw [encs_cons, i3, List.append_assoc, j2, List.take_append_drop]
     ·intro m hm
      rcases List.mem_cons.1 hm with rfl | hm
      ·exact ⟨i1, i2⟩
      ·exact j3 m hm
     ·rw [List.length_take] at i4
      rw [List.length_drop] at j4
      rw [List.length_cons]
      omega
    ·exact stop 2
  ·exact stop 0
theorem take_len_le {k : Nat} {l : List Int} (h : k ≤ l.length) : (l.take k).length = k := by rw [List.length_take]; omega
theorem encs_cut : ∀ (ms : List Ms) (k : Nat), (∀ m ∈ ms, rightM m = true ∧ WM m) → k ≤ (encs ms).length → ∃ j t, (encs ms).take k = encs (ms.take j) ++ t ∧ t ++ (encs ms).drop k = encs (ms.drop j) ∧ short t
 | [], k, _, hk => ⟨0, [], by simp [encs], by simp [encs], .inl (by simp)⟩
 | m :: ms, k, hm, hk => by
  obtain ⟨hr, hw⟩ := hm m List.mem_cons_self
  have hl := enc_len m
  have hh := headN_enc m (by have := inner_le hr; omega)
  rw [encs_cons] at hk ⊢
  rw [List.length_append] at hk
  by_cases h : k < (encP m).length
  ·refine ⟨0, (encP m).take k, ?_, ?_, ?_⟩
   ·rw [List.take_append_of_le_length (by omega)]
    rfl
   ·rw [List.drop_append_of_le_length (by omega), ← List.append_assoc, List.take_append_drop]
    rfl
   ·unfold short
    rw [take_len_le (by omega)]
    by_cases h2 : k < 2
    ·left; omega
    ·right
     have := headN_app ((encP m).drop k) (show 2 ≤ ((encP m).take k).length by rw [take_len_le (by omega)]; omega)
     rw [List.take_append_drop] at this
     rw [← this]
     omega
  ·obtain ⟨j, t, i1, i2, i3⟩ := encs_cut ms (k - (encP m).length) (fun x hx => hm x (List.mem_cons_of_mem _ hx)) (by omega)
   refine ⟨j + 1, t, ?_, ?_, i3⟩
   ·rw [List.take_append, List.take_of_length_le (by omega), i1, List.take_succ_cons, encs_cons, List.append_assoc]
   ·rw [List.drop_append, List.drop_eq_nil_of_le (by omega), List.nil_append, i2, List.drop_succ_cons]
end Go.Proofs.Ytboonfidioombaa.P
