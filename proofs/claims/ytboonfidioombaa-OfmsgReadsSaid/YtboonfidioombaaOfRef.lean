/- The document's own functions of messages do what the program's do: which are right, and their bytes. -/
import Derived.Test.YtboonfidioombaaOfDec
import Derived.Test.YtboonfidioombaaPx20
import Derived.Test.YtboonfidioombaaPx21
import Derived.Test.YtboonfidioombaaPx22
import Derived.Test.YtboonfidioombaaPx23
namespace Go.Proofs.Ytboonfidioombaa.P
set_option linter.unusedVariables false
set_option linter.unusedSimpArgs false
open Go.RowKit Go.Proofs.YtboonfidioombaaW.PrintWords Go.Proofs.YtboonfidioombaaW.PrintLast Go.Proofs.YtboonfidioombaaW.PrintMore
def tail7 (x5 : Bool) (m : Ms) : Bool := if m.f0 = 7 then x5 && (((m.f5.length : Int) == 0) && (decide (0 ≤ m.f3) && decide (m.f3 ≤ 63))) else if m.f0 = 8 ∨ m.f0 = 9 then x5 && (!m.f4 && (decide (64 ≤ m.f3) && (decide (m.f3 ≤ 127) && decide ((m.f5.length : Int) ≤ 1500)))) else false
theorem rr3 (k : Nat) (x5 x6 b : Bool) (m : Ms) : stolonref16_Right.j3 (k + 1) x5 x6 m.f0 b m.f0 m.f1 m.f2.f0 m.f2.f1 m.f2.f2 m.f2.f3 m.f2.f4 m.f2.f5 m.f3 m.f4 m.f5 = some (if b = true then x5 && x6 else tail7 x5 m) := by
 have fr : (if x5 = true then (if m.f4 = true then (some false) else (if m.f3 ≥ 64 then (if m.f3 ≤ 127 then (some (decide ((m.f5.length : Int) ≤ 1500))) else (some false)) else (some false))) else (some false)) = some (x5 && (!m.f4 && (decide (64 ≤ m.f3) && (decide (m.f3 ≤ 127) && decide ((m.f5.length : Int) ≤ 1500))))) := by
  cases x5 with
  | false => rfl
  | true =>
   cases m.f4 with
   | true => rfl
   | false =>
    rw [if_pos rfl, if_neg ff]
    by_cases h1 : m.f3 ≥ 64
    ·rw [if_pos h1, decide_eq_true (show 64 ≤ m.f3 from h1)]
     by_cases h2 : m.f3 ≤ 127
     ·rw [if_pos h2, decide_eq_true h2]; rfl
     ·rw [if_neg h2, decide_eq_false h2]; rfl
    ·rw [if_neg h1, decide_eq_false (show ¬ 64 ≤ m.f3 from h1)]; rfl
 rw [stolonref16_Right.j3]
 cases b with
 | true => rw [if_pos rfl, if_pos rfl]; cases x5 <;> rfl
 | false =>
  rw [if_neg ff, if_neg ff]
  unfold tail7
  by_cases h7 : m.f0 = 7
  ·rw [if_pos h7, if_pos h7]
   cases x5 with
   | false => rfl
   | true =>
    rw [if_pos rfl]
    by_cases h0 : (m.f5.length : Int) = 0
    ·rw [if_pos h0, beq_iff_eq.2 h0]
     by_cases h1 : m.f3 ≥ 0
     ·rw [if_pos h1, decide_eq_true (show 0 ≤ m.f3 from h1)]; rfl
     ·rw [if_neg h1, decide_eq_false (show ¬ 0 ≤ m.f3 from h1)]; rfl
    ·rw [if_neg h0, beq_eq_false_iff_ne.2 h0]; rfl
  rw [if_neg h7, if_neg h7]
  by_cases h8 : m.f0 = 8
  ·rw [if_pos h8, if_pos (Or.inl h8)]; exact fr
  rw [if_neg h8]
  by_cases h9 : m.f0 = 9
  ·rw [if_pos h9, if_pos (Or.inr h9)]; exact fr
  rw [if_neg h9, if_neg (fun h => h.elim h8 h9)]
theorem rr2 (k : Nat) (x4 x5 x6 : Bool) (m : Ms) (hp : 0 ≤ m.f2.f4) (hl : m.f2.f5.length ≤ 1000000) (hk : m.f2.f5.length + 3 ≤ k) : stolonref16_Right.j2 (k + 1) x4 x5 x6 m.f0 m.f1 m.f2.f0 m.f2.f1 m.f2.f2 m.f2.f3 m.f2.f4 m.f2.f5 m.f3 m.f4 m.f5 m.f2.f0 m.f2.f1 m.f2.f2 m.f2.f3 m.f2.f4 m.f2.f5 =
  some (if m.f0 = 1 then rightR m.f2 && x6 else if m.f0 = 2 then askedB m.f2.f1 && (x4 && x6) else if 3 ≤ m.f0 ∧ m.f0 ≤ 6 then x5 && x6 else tail7 x5 m) := by
 obtain ⟨k, rfl⟩ : ∃ j, k = j + 1 := ⟨k - 1, by omega⟩
 rw [stolonref16_Right.j2]
 by_cases h1 : m.f0 = 1
 ·rw [if_pos h1, if_pos h1, rright_ok m.f2 hp hl _ hk, fbs]
  cases rightR m.f2 <;> rfl
 rw [if_neg h1, if_neg h1]
 by_cases h2 : m.f0 = 2
 ·rw [if_pos h2, if_pos h2, asked_ok, fbs]
  cases askedB m.f2.f1 with
  | false => rfl
  | true => cases x4 <;> rfl
 rw [if_neg h2, if_neg h2]
 have go : ∀ b : Bool, (b = true ↔ (3 ≤ m.f0 ∧ m.f0 ≤ 6)) → some (if b = true then x5 && x6 else tail7 x5 m) = some (if 3 ≤ m.f0 ∧ m.f0 ≤ 6 then x5 && x6 else tail7 x5 m) := by
  intro b hb
  congr 1
  by_cases h : 3 ≤ m.f0 ∧ m.f0 ≤ 6
  ·rw [if_pos h, if_pos (hb.2 h)]
  ·rw [if_neg h, if_neg (fun e => h (hb.1 e))]
 by_cases h3 : m.f0 = 3
 ·rw [if_pos h3, rr3]; exact go _ (by rw [beq_iff_eq]; omega)
 rw [if_neg h3]
 by_cases h4 : m.f0 = 4
 ·rw [if_pos h4, rr3]; exact go _ (by rw [beq_iff_eq]; omega)
 rw [if_neg h4]
 by_cases h5 : m.f0 = 5
 ·rw [if_pos h5, rr3]; exact go _ (by rw [beq_iff_eq]; omega)
 rw [if_neg h5, rr3]
 exact go _ (by rw [beq_iff_eq]; omega)
theorem rright16_ok (m : Ms) (hp : 0 ≤ m.f2.f4) (hl : m.f2.f5.length ≤ 1000000) (k : Nat) (hk : m.f2.f5.length + 6 ≤ k) : stolonref16_Right.f k m.f0 m.f1 m.f2.f0 m.f2.f1 m.f2.f2 m.f2.f3 m.f2.f4 m.f2.f5 m.f3 m.f4 m.f5 = some (rightM m) := by
 obtain ⟨k, rfl⟩ : ∃ j, k = j + 1 + 1 + 1 := ⟨k - 3, by omega⟩
 let bare : Bool := (m.f2.f3 == 0) && ((m.f2.f4 == 0) && ((m.f2.f5.length : Int) == 0))
 have hno : (bare && ((m.f2.f0 == 0) && ((m.f2.f1 == 0) && (m.f2.f2 == 0)))) = noRule m.f2 := by
  show ((m.f2.f3 == 0) && ((m.f2.f4 == 0) && ((m.f2.f5.length : Int) == 0)) && ((m.f2.f0 == 0) && ((m.f2.f1 == 0) && (m.f2.f2 == 0)))) = noRule m.f2
  unfold noRule
  generalize (m.f2.f0 == 0) = a0
  generalize (m.f2.f1 == 0) = a1
  generalize (m.f2.f2 == 0) = a2
  generalize (m.f2.f3 == 0) = a3
  generalize (m.f2.f4 == 0) = a4
  generalize ((m.f2.f5.length : Int) == 0) = a5
  cases a0 <;> cases a1 <;> cases a2 <;> cases a3 <;> cases a4 <;> cases a5 <;> rfl
 have h2 := fun (x4 x5 x6 : Bool) => rr2 k x4 x5 x6 m hp hl (by omega)
 have h1 : ∀ x4 x5 : Bool, stolonref16_Right.j1 (k + 1 + 1) x4 x5 m.f0 m.f1 m.f2.f0 m.f2.f1 m.f2.f2 m.f2.f3 m.f2.f4 m.f2.f5 m.f3 m.f4 m.f5 m.f2.f0 m.f2.f1 m.f2.f2 m.f2.f3 m.f2.f4 m.f2.f5 = some (if m.f0 = 1 then rightR m.f2 && still m else if m.f0 = 2 then askedB m.f2.f1 && (x4 && still m) else if 3 ≤ m.f0 ∧ m.f0 ≤ 6 then x5 && still m else tail7 x5 m) := by
  intro x4 x5
  rw [stolonref16_Right.j1]
  by_cases e0 : m.f3 = 0
  ·rw [if_pos e0]
   cases hu : m.f4 with
   | true =>
    rw [if_pos rfl]
    have := h2 x4 x5 false
    rw [hu] at this
    rw [this, show still m = false by unfold still; rw [hu, beq_iff_eq.2 e0]; rfl]
   | false =>
    rw [if_neg ff]
    have := h2 x4 x5 ((m.f5.length : Int) == 0)
    rw [hu] at this
    rw [this, show still m = ((m.f5.length : Int) == 0) by unfold still; rw [hu, beq_iff_eq.2 e0]; rfl]
  ·rw [if_neg e0, h2, show still m = false by unfold still; rw [beq_eq_false_iff_ne.2 e0]; rfl]
 have h0 : stolonref16_Right.j0 (k + 1 + 1 + 1) bare m.f0 m.f1 m.f2.f0 m.f2.f1 m.f2.f2 m.f2.f3 m.f2.f4 m.f2.f5 m.f3 m.f4 m.f5 m.f2.f0 m.f2.f1 m.f2.f2 m.f2.f3 m.f2.f4 m.f2.f5 = some (rightM m) := by
  rw [stolonref16_Right.j0]
  have fin : some (if m.f0 = 1 then rightR m.f2 && still m else if m.f0 = 2 then askedB m.f2.f1 && (bare && still m) else if 3 ≤ m.f0 ∧ m.f0 ≤ 6 then (bare && ((m.f2.f0 == 0) && ((m.f2.f1 == 0) && (m.f2.f2 == 0)))) && still m else tail7 (bare && ((m.f2.f0 == 0) && ((m.f2.f1 == 0) && (m.f2.f2 == 0)))) m) = some (rightM m) := by
   rw [hno]
   unfold rightM tail7
   rfl
  rw [← fin]
  cases hb : bare with
  | false => rw [if_neg ff, h1]; rfl
  | true =>
   rw [if_pos rfl]
   by_cases e0 : m.f2.f0 = 0
   ·rw [if_pos e0, beq_iff_eq.2 e0]
    by_cases e1 : m.f2.f1 = 0
    ·rw [if_pos e1, beq_iff_eq.2 e1, h1]; rfl
    ·rw [if_neg e1, beq_eq_false_iff_ne.2 e1, h1]; rfl
   ·rw [if_neg e0, beq_eq_false_iff_ne.2 e0, h1]; rfl
 unfold stolonref16_Right.f
 by_cases e3 : m.f2.f3 = 0
 ·rw [if_pos e3]
  by_cases e4 : m.f2.f4 = 0
  ·rw [if_pos e4, ← h0, show bare = ((m.f2.f5.length : Int) == 0) by show ((m.f2.f3 == 0) && ((m.f2.f4 == 0) && ((m.f2.f5.length : Int) == 0))) = _; rw [beq_iff_eq.2 e3, beq_iff_eq.2 e4]; rfl]
  ·rw [if_neg e4, ← h0, show bare = false by show ((m.f2.f3 == 0) && ((m.f2.f4 == 0) && ((m.f2.f5.length : Int) == 0))) = _; rw [beq_eq_false_iff_ne.2 e4]; simp]
 ·rw [if_neg e3, ← h0, show bare = false by show ((m.f2.f3 == 0) && ((m.f2.f4 == 0) && ((m.f2.f5.length : Int) == 0))) = _; rw [beq_eq_false_iff_ne.2 e3]; rfl]
theorem number_4 {n : Int} (h0 : 0 ≤ n) (h1 : n ≤ 4294967295) : stolonref16_number.f n 4 = some (fourL n) := by
 unfold stolonref16_number.f fourL
 rw [fbs, fw64 (x := 4 - 4) (by omega), if_pos (by omega), if_pos (by simp), Int.tdiv_eq_ediv_of_nonneg h0, Int.tdiv_eq_ediv_of_nonneg h0, Int.tdiv_eq_ediv_of_nonneg h0, Int.tmod_eq_emod_of_nonneg h0]
 show some [n / 16777216 % 4294967296 % 256, n / 65536 % 4294967296 % 256, n / 256 % 4294967296 % 256, n % 256 % 256] = _
 rw [show n / 16777216 % 4294967296 % 256 = n / 16777216 % 256 by omega, show n / 65536 % 4294967296 % 256 = n / 65536 % 256 by omega, show n / 256 % 4294967296 % 256 = n / 256 % 256 by omega, show n % 256 % 256 = n % 256 by omega]
theorem number_2 {n : Int} (h0 : 0 ≤ n) (h1 : n ≤ 4294967295) : stolonref16_number.f n 2 = some (twoL n) := by
 unfold stolonref16_number.f twoL
 rw [fbs, fw64 (x := 4 - 2) (by omega), if_pos (by omega), if_pos (by simp), Int.tdiv_eq_ediv_of_nonneg h0, Int.tdiv_eq_ediv_of_nonneg h0, Int.tdiv_eq_ediv_of_nonneg h0, Int.tmod_eq_emod_of_nonneg h0]
 show some [n / 256 % 4294967296 % 256, n % 256 % 256] = _
 rw [show n / 256 % 4294967296 % 256 = n / 256 % 256 by omega, show n % 256 % 256 = n % 256 by omega]
def lastP (m : Ms) : List Int := if m.f0 = 7 then [m.f3, if m.f4 = true then 1 else 0] else if m.f0 = 8 ∨ m.f0 = 9 then m.f3 :: m.f5 else []
theorem set_last (xs : List Int) (p : Int) : (xs ++ [p, 0]).set (xs.length + 1) 1 = xs ++ [p, 1] := by
 rw [List.set_append_right _ _ (by omega), show xs.length + 1 - xs.length = 1 by omega]
 rfl
theorem re4 (m : Ms) (hp : m.f0 = 7 ∨ m.f0 = 8 ∨ m.f0 = 9 → 0 ≤ m.f3 ∧ m.f3 ≤ 255) (hf : m.f5.length ≤ 3000) (xs : List Int) (hx : xs.length ≤ 4000) (k : Nat) : stolonref16_Encode.j4 (k + 1) xs m.f0 m.f1 m.f2.f0 m.f2.f1 m.f2.f2 m.f2.f3 m.f2.f4 m.f2.f5 m.f3 m.f4 m.f5 = some (twoL ((xs ++ lastP m).length + 2) ++ (xs ++ lastP m), 0) := by
 have fin : ∀ ys : List Int, ys.length ≤ 10000 → ((stolonref16_number.f ((wrap64 ((ys.length : Int) + 2)) % 4294967296) 2).bind fun t => (if t.length + ys.length < 140737488355328 then (some ((t ++ ys), (0 : Int))) else (none))) = some (twoL ((ys.length : Int) + 2) ++ ys, 0) := by
  intro ys hy
  rw [fw64 (by omega), Int.emod_eq_of_lt (by omega) (by omega), number_2 (by omega) (by omega), fbs, if_pos (by rw [twoL_len]; omega)]
 rw [stolonref16_Encode.j4]
 unfold lastP
 by_cases h7 : m.f0 = 7
 ·have n8 : ¬ m.f0 = 8 := by omega
  have n9 : ¬ m.f0 = 9 := by omega
  have hpp := hp (.inl h7)
  have hl1 : (xs ++ [m.f3, 0]).length = xs.length + 2 := by simp
  have hl2 : (xs ++ [m.f3, 1]).length = xs.length + 2 := by simp
  simp only [if_pos h7, if_neg n8, if_neg n9]
  rw [show m.f3 % 256 = m.f3 by omega, fbs, if_pos (by simp; omega), fbs]
  cases m.f4 with
  | false =>
   rw [if_neg ff, if_neg ff]
   exact fin _ (by omega)
  | true =>
   rw [if_pos rfl, if_pos rfl, hl1, fw64 (by omega) (x := ((xs.length + 2 : Nat) : Int) - 1), if_pos (by omega), if_pos (by omega), fbs, show (((xs.length + 2 : Nat) : Int) - 1).toNat = xs.length + 1 by omega, set_last]
   have := fin (xs ++ [m.f3, 1]) (by omega)
   rw [hl2] at this ⊢
   exact this
 ·simp only [if_neg h7]
  have fr : m.f0 = 8 ∨ m.f0 = 9 → (if xs.length < 140737488355328 then ((some (xs ++ [(m.f3) % 256] : List Int)).bind fun y => (if y.length + m.f5.length < 140737488355328 then ((some (y ++ m.f5 : List Int)).bind fun z => ((stolonref16_number.f ((wrap64 ((z.length : Int) + 2)) % 4294967296) 2).bind fun t => (if t.length + z.length < 140737488355328 then (some ((t ++ z), (0 : Int))) else (none)))) else (none))) else (none)) = some (twoL ((xs ++ m.f3 :: m.f5).length + 2) ++ (xs ++ m.f3 :: m.f5), 0) := by
   intro h
   have hpp := hp (.inr h)
   rw [if_pos (by omega), fbs, if_pos (by simp; omega), fbs, show m.f3 % 256 = m.f3 by omega, List.append_assoc]
   exact fin (xs ++ ([m.f3] ++ m.f5)) (by simp; omega)
  by_cases h8 : m.f0 = 8
  ·simp only [if_pos h8, if_pos (show m.f0 = 8 ∨ m.f0 = 9 from .inl h8)]
   exact fr (.inl h8)
  ·simp only [if_neg h8]
   by_cases h9 : m.f0 = 9
   ·simp only [if_pos h9, if_pos (show m.f0 = 8 ∨ m.f0 = 9 from .inr h9)]
    exact fr (.inr h9)
   ·simp only [if_neg h9, if_neg (show ¬ (m.f0 = 8 ∨ m.f0 = 9) from fun h => h.elim h8 h9), List.append_nil]
    exact fin xs (by omega)
theorem re_loop (m : Ms) (hm : m.f0 = 1) (hf : m.f5.length ≤ 3000) (hl : m.f2.f5.length ≤ 3000) (hb : byteL (m.f2.f5.map (·.f0))) : ∀ (d i k : Nat) (xs : List Int), i + d = m.f2.f5.length → d + 2 ≤ k → xs.length + d ≤ 4000 →
  stolonref16_Encode.l0 k xs (i : Int) m.f0 m.f1 m.f2.f0 m.f2.f1 m.f2.f2 m.f2.f3 m.f2.f4 m.f2.f5 m.f3 m.f4 m.f5 m.f2.f0 m.f2.f1 m.f2.f2 m.f2.f3 m.f2.f4 m.f2.f5 = some (twoL ((xs ++ (m.f2.f5.map (·.f0)).drop i).length + 2) ++ (xs ++ (m.f2.f5.map (·.f0)).drop i), 0) := by
 intro d
 induction d with
 | zero =>
  intro i k xs hi hk hx
  obtain ⟨k, rfl⟩ : ∃ j, k = j + 1 + 1 := ⟨k - 2, by omega⟩
  rw [stolonref16_Encode.l0, if_neg (by omega), List.drop_of_length_le (by rw [List.length_map]; omega), re4 m (fun h => by omega) hf xs (by omega) k]
  have : lastP m = [] := by unfold lastP; rw [if_neg (by omega), if_neg (by omega)]
  rw [this]
 | succ d ih =>
  intro i k xs hi hk hx
  obtain ⟨k, rfl⟩ : ∃ j, k = j + 1 := ⟨k - 1, by omega⟩
  have hlt : i < m.f2.f5.length := by omega
  have hlm : i < (m.f2.f5.map (·.f0)).length := by rw [List.length_map]; exact hlt
  have h0 := hb ((m.f2.f5[i]'hlt).f0) (List.mem_map.2 ⟨_, List.getElem_mem hlt, rfl⟩)
  have := ih (i + 1) k (xs ++ [(m.f2.f5[i]'hlt).f0]) (by omega) (by omega) (by simp; omega)
  rw [Int.natCast_add] at this
  rw [stolonref16_Encode.l0, if_pos (by omega), if_pos (by omega), if_pos (by omega), rd_ot _ i hlt, fw64 (by omega), show (m.f2.f5[i]'hlt).f0 % 256 = (m.f2.f5[i]'hlt).f0 by omega, show ((i : Int) + 1) = (i : Int) + ((1 : Nat) : Int) from rfl, this, List.drop_eq_getElem_cons hlm, List.getElem_map, List.append_assoc]
  rfl
theorem rencode_ok (m : Ms) (hw : WM m) (hl : m.f2.f5.length ≤ 3000) (hf : m.f5.length ≤ 3000) (k : Nat) (hk : 4000 ≤ k) : stolonref16_Encode.f k m.f0 m.f1 m.f2.f0 m.f2.f1 m.f2.f2 m.f2.f3 m.f2.f4 m.f2.f5 m.f3 m.f4 m.f5 = some (if rightM m = true then (encP m, 0) else ([], 1)) := by
 unfold stolonref16_Encode.f
 rw [rright16_ok m hw.push.1 (by omega) k (by omega), fbs]
 cases hr : rightM m with
 | false => rfl
 | true =>
  obtain ⟨k, rfl⟩ : ∃ j, k = j + 1 + 1 + 1 + 1 := ⟨k - 4, by omega⟩
  have hil := inner_le hr
  rw [if_pos rfl, if_pos rfl, fbs, number_4 hw.xid.1 hw.xid.2, fbs, if_pos (by simp [fourL_len]), fbs]
  have j1other : ∀ (xs : List Int), m.f0 ≠ 1 → xs.length ≤ 4000 → (m.f0 = 7 ∨ m.f0 = 8 ∨ m.f0 = 9 → 0 ≤ m.f3 ∧ m.f3 ≤ 255) → stolonref16_Encode.j1 (k + 1 + 1 + 1) xs m.f0 m.f1 m.f2.f0 m.f2.f1 m.f2.f2 m.f2.f3 m.f2.f4 m.f2.f5 m.f3 m.f4 m.f5 m.f2.f0 m.f2.f1 m.f2.f2 m.f2.f3 m.f2.f4 m.f2.f5 = some (twoL ((xs ++ lastP m).length + 2) ++ (xs ++ lastP m), 0) := by
   intro xs h hx hp
   rw [stolonref16_Encode.j1, if_neg h, re4 m hp hf xs hx]
  have j0true : ∀ (xs : List Int), xs.length ≤ 100 → stolonref16_Encode.j0 (k + 1 + 1 + 1 + 1) xs true m.f0 m.f1 m.f2.f0 m.f2.f1 m.f2.f2 m.f2.f3 m.f2.f4 m.f2.f5 m.f3 m.f4 m.f5 m.f2.f0 m.f2.f1 m.f2.f2 m.f2.f3 m.f2.f4 m.f2.f5 = stolonref16_Encode.j1 (k + 1 + 1 + 1) (xs ++ fourL m.f2.f0 ++ fourL m.f2.f1 ++ fourL m.f2.f2) m.f0 m.f1 m.f2.f0 m.f2.f1 m.f2.f2 m.f2.f3 m.f2.f4 m.f2.f5 m.f3 m.f4 m.f5 m.f2.f0 m.f2.f1 m.f2.f2 m.f2.f3 m.f2.f4 m.f2.f5 := by
   intro xs hx
   rw [stolonref16_Encode.j0, if_pos rfl, number_4 hw.src.1 hw.src.2, fbs, if_pos (by rw [fourL_len]; omega), fbs, number_4 hw.dst.1 hw.dst.2, fbs, if_pos (by rw [List.length_append, fourL_len]; simp [fourL_len]; omega), fbs, number_4 hw.tag.1 hw.tag.2, fbs, if_pos (by simp [fourL_len]; omega)]
  unfold encP innerP
  cases right_kinds hr with
  | put h hrr hs =>
   have hp := rightR_parts hrr
   have hpl := hp.len
   have hi := hp.inn
   rw [if_pos h, j0true _ (by simp [fourL_len]), stolonref16_Encode.j1, if_pos h, if_pos h]
   have j2 : ∀ (xs : List Int) (x7 : Int), xs.length ≤ 100 → 0 ≤ x7 → x7 ≤ 65535 → stolonref16_Encode.j2 (k + 1 + 1) xs x7 m.f0 m.f1 m.f2.f0 m.f2.f1 m.f2.f2 m.f2.f3 m.f2.f4 m.f2.f5 m.f3 m.f4 m.f5 m.f2.f0 m.f2.f1 m.f2.f2 m.f2.f3 m.f2.f4 m.f2.f5 = some (twoL ((xs ++ twoL x7 ++ fourL m.f2.f4 ++ twoL m.f2.f5.length ++ m.f2.f5.map (·.f0)).length + 2) ++ (xs ++ twoL x7 ++ fourL m.f2.f4 ++ twoL m.f2.f5.length ++ m.f2.f5.map (·.f0)), 0) := by
    intro xs x7 hx h0 h1
    rw [stolonref16_Encode.j2, number_2 h0 (by omega), fbs, if_pos (by rw [twoL_len]; omega), fbs, number_4 hw.push.1 hw.push.2, fbs, if_pos (by simp [fourL_len, twoL_len]; omega), fbs, Int.emod_eq_of_lt (by omega) (by omega), number_2 (by omega) (by omega), fbs, if_pos (by simp [fourL_len, twoL_len]; omega)]
    have := re_loop m h hf hl hp.bytes m.f2.f5.length 0 (k + 1) (xs ++ twoL x7 ++ fourL m.f2.f4 ++ twoL m.f2.f5.length) (by omega) (by omega) (by simp [fourL_len, twoL_len]; omega)
    rw [show ((0 : Nat) : Int) = 0 from rfl, List.drop_zero] at this
    exact this
   have hjj : (if m.f2.f3 ≥ 0 then stolonref16_Encode.j2 (k + 1 + 1) ([m.f0] ++ fourL m.f1 ++ fourL m.f2.f0 ++ fourL m.f2.f1 ++ fourL m.f2.f2) (m.f2.f3 % 4294967296) m.f0 m.f1 m.f2.f0 m.f2.f1 m.f2.f2 m.f2.f3 m.f2.f4 m.f2.f5 m.f3 m.f4 m.f5 m.f2.f0 m.f2.f1 m.f2.f2 m.f2.f3 m.f2.f4 m.f2.f5 else stolonref16_Encode.j2 (k + 1 + 1) ([m.f0] ++ fourL m.f1 ++ fourL m.f2.f0 ++ fourL m.f2.f1 ++ fourL m.f2.f2) 65535 m.f0 m.f1 m.f2.f0 m.f2.f1 m.f2.f2 m.f2.f3 m.f2.f4 m.f2.f5 m.f3 m.f4 m.f5 m.f2.f0 m.f2.f1 m.f2.f2 m.f2.f3 m.f2.f4 m.f2.f5) = stolonref16_Encode.j2 (k + 1 + 1) ([m.f0] ++ fourL m.f1 ++ fourL m.f2.f0 ++ fourL m.f2.f1 ++ fourL m.f2.f2) (inP m.f2.f3) m.f0 m.f1 m.f2.f0 m.f2.f1 m.f2.f2 m.f2.f3 m.f2.f4 m.f2.f5 m.f3 m.f4 m.f5 m.f2.f0 m.f2.f1 m.f2.f2 m.f2.f3 m.f2.f4 m.f2.f5 := by
    unfold inP at hi ⊢
    by_cases h3 : m.f2.f3 = -1
    ·rw [if_neg (by omega), if_pos h3]
    ·rw [if_neg h3] at hi ⊢
     rw [if_pos (by omega), Int.emod_eq_of_lt (by omega) (by omega)]
   rw [hjj, j2 _ _ (by simp [fourL_len]) hi.1 hi.2]
   simp only [List.append_assoc]
   congr 4
   simp only [List.length_append, fourL_len, twoL_len, List.length_map, List.length_cons, List.length_nil]
   omega
  | del h ha h3 h4 h5 hs =>
   have h1 : ¬ m.f0 = 1 := by omega
   rw [if_neg h1, if_neg h1, if_pos h, show (m.f0 == 2) = true from beq_iff_eq.2 h, j0true _ (by simp [fourL_len]), j1other _ h1 (by simp [fourL_len]) (fun h => by omega)]
   have : lastP m = [] := by unfold lastP; rw [if_neg (by omega), if_neg (by omega)]
   rw [this, List.append_nil]
   simp only [List.append_assoc]
   congr 3
  | bare h hrr hs =>
   have h1 : ¬ m.f0 = 1 := by omega
   rw [if_neg h1, show (m.f0 == 2) = false from beq_eq_false_iff_ne.2 (by omega), stolonref16_Encode.j0, if_neg ff, j1other _ h1 (by simp [fourL_len]) (fun h => by omega)]
   have : lastP m = [] := by unfold lastP; rw [if_neg (by omega), if_neg (by omega)]
   rw [this, if_neg h1, if_neg (by omega), if_neg (by omega), if_neg (by omega), List.append_nil, List.append_nil]
   rfl
  | link h hrr hp hfr =>
   have h1 : ¬ m.f0 = 1 := by omega
   rw [if_neg h1, show (m.f0 == 2) = false from beq_eq_false_iff_ne.2 (by omega), stolonref16_Encode.j0, if_neg ff, j1other _ h1 (by simp [fourL_len]) (fun _ => by omega), if_neg h1, if_neg (show ¬ m.f0 = 2 by omega)]
   unfold lastP
   simp only [if_pos h, List.append_assoc]
   rfl
  | frame h hrr hp hu hlf =>
   have h1 : ¬ m.f0 = 1 := by omega
   have n7 : ¬ m.f0 = 7 := by omega
   rw [if_neg h1, show (m.f0 == 2) = false from beq_eq_false_iff_ne.2 (by omega), stolonref16_Encode.j0, if_neg ff, j1other _ h1 (by simp [fourL_len]) (fun _ => by omega), if_neg h1, if_neg (show ¬ m.f0 = 2 by omega)]
   unfold lastP
   simp only [if_neg n7, if_pos h, List.append_assoc]
   congr 4
   simp only [List.length_append, fourL_len, List.length_cons, List.length_nil]
   omega
end Go.Proofs.Ytboonfidioombaa.P
