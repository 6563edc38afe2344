/- What bytes of messages say: numbers of bytes, and what is read of a row of bytes. Plain lemmas on lists. -/
import Derived.Test.YtboonfidioombaaFlFun
import Derived.Laws.BitsLemmas
import Derived.Test.YtboonfidioombaaPx15
namespace Go.Proofs.Ytboonfidioombaa.P
set_option linter.unusedVariables false
set_option linter.unusedSimpArgs false
open Go.RowKit Go.Proofs.YtboonfidioombaaW.PrintWords Go.Proofs.YtboonfidioombaaW.PrintLast Go.Proofs.YtboonfidioombaaW.PrintMore
abbrev Ms := S29
def byteL (l : List Int) : Prop := ∀ y ∈ l, 0 ≤ y ∧ y ≤ 255
theorem byteL_cons {x : Int} {l : List Int} : byteL (x :: l) ↔ (0 ≤ x ∧ x ≤ 255) ∧ byteL l := by unfold byteL; simp
theorem byteL_app {a b : List Int} : byteL (a ++ b) ↔ byteL a ∧ byteL b := by
 unfold byteL
 simp only [List.mem_append]
 exact ⟨fun h => ⟨fun y hy => h y (.inl hy), fun y hy => h y (.inr hy)⟩, fun h y hy => hy.elim (h.1 y) (h.2 y)⟩
theorem numStep_ok (v x : Int) (hv : 0 ≤ v) (hv2 : v ≤ 16777215) (hx : 0 ≤ x) (hx2 : x ≤ 255) : numStep v x = v * 256 + x := by
 unfold numStep
 rw [show wrap64 (v * 256) = v * 256 by unfold wrap64; omega, show wrap64 x = x by unfold wrap64; omega]
 exact bits_join .i64 63 (by decide) (fun n h0 h1 => by rw [IntKind.wrap_i64]; omega) 8 (v * 256) x (by omega) (by omega) (by omega) hx (by omega) (by omega)
theorem numP_1 {a : Int} (h : byteL [a]) : numP [a] = a := by
 have h0 := h a (by simp)
 unfold numP
 rw [List.foldl_cons, List.foldl_nil, numStep_ok _ _ (by omega) (by omega) h0.1 h0.2]
 omega
theorem numP_2 {a b : Int} (h : byteL [a, b]) : numP [a, b] = a * 256 + b := by
 have h0 := h a (by simp)
 have h1 := h b (by simp)
 unfold numP
 rw [List.foldl_cons, List.foldl_cons, List.foldl_nil, numStep_ok 0 a (by omega) (by omega) h0.1 h0.2, numStep_ok _ _ (by omega) (by omega) h1.1 h1.2]
 omega
theorem numP_4 {a b c d : Int} (h : byteL [a, b, c, d]) : numP [a, b, c, d] = ((a * 256 + b) * 256 + c) * 256 + d := by
 have h0 := h a (by simp)
 have h1 := h b (by simp)
 have h2 := h c (by simp)
 have h3 := h d (by simp)
 unfold numP
 rw [List.foldl_cons, List.foldl_cons, List.foldl_cons, List.foldl_cons, List.foldl_nil, numStep_ok 0 a (by omega) (by omega) h0.1 h0.2, numStep_ok _ b (by omega) (by omega) h1.1 h1.2, numStep_ok _ c (by omega) (by omega) h2.1 h2.2, numStep_ok _ d (by omega) (by omega) h3.1 h3.2]
 omega
def twoL (n : Int) : List Int := [n / 256 % 256, n % 256]
def fourL (n : Int) : List Int := [n / 16777216 % 256, n / 65536 % 256, n / 256 % 256, n % 256]
theorem twoL_len (n : Int) : (twoL n).length = 2 := rfl
theorem fourL_len (n : Int) : (fourL n).length = 4 := rfl
theorem byteL_two (n : Int) : byteL (twoL n) := by
 unfold twoL
 rw [byteL_cons, byteL_cons]
 exact ⟨by omega, by omega, fun y h => by cases h⟩
theorem byteL_four (n : Int) : byteL (fourL n) := by
 unfold fourL
 rw [byteL_cons, byteL_cons, byteL_cons, byteL_cons]
 exact ⟨by omega, by omega, by omega, by omega, fun y h => by cases h⟩
theorem numP_two {n : Int} (h0 : 0 ≤ n) (h1 : n ≤ 65535) : numP (twoL n) = n := by
 have := numP_2 (byteL_two n)
 unfold twoL
 rw [this]
 omega
theorem numP_four {n : Int} (h0 : 0 ≤ n) (h1 : n ≤ 4294967295) : numP (fourL n) = n := by
 have := numP_4 (byteL_four n)
 unfold fourL
 rw [this]
 omega
theorem len_1 {l : List Int} (h : l.length = 1) : ∃ a, l = [a] := by
 rcases l with _ | ⟨a, _ | ⟨b, l⟩⟩
 ·cases h
 ·exact ⟨a, rfl⟩
 ·simp at h
theorem len_2 {l : List Int} (h : l.length = 2) : ∃ a b, l = [a, b] := by
 rcases l with _ | ⟨a, l⟩
 ·cases h
 ·obtain ⟨b, rfl⟩ := len_1 (by simpa using h : l.length = 1)
  exact ⟨a, b, rfl⟩
theorem len_4 {l : List Int} (h : l.length = 4) : ∃ a b c d, l = [a, b, c, d] := by
 rcases l with _ | ⟨a, _ | ⟨b, l⟩⟩
 ·cases h
 ·cases h
 ·obtain ⟨c, d, rfl⟩ := len_2 (by simpa using h : l.length = 2)
  exact ⟨a, b, c, d, rfl⟩
theorem one_num {l : List Int} (h : byteL l) (hl : l.length = 1) : [numP l] = l ∧ 0 ≤ numP l ∧ numP l ≤ 255 := by
 obtain ⟨a, rfl⟩ := len_1 hl
 have h0 := h a (by simp)
 rw [numP_1 h]
 exact ⟨rfl, h0⟩
theorem two_num {l : List Int} (h : byteL l) (hl : l.length = 2) : twoL (numP l) = l ∧ 0 ≤ numP l ∧ numP l ≤ 65535 := by
 obtain ⟨a, b, rfl⟩ := len_2 hl
 have h0 := h a (by simp)
 have h1 := h b (by simp)
 rw [numP_2 h]
 unfold twoL
 refine ⟨?_, by omega, by omega⟩
 rw [show (a * 256 + b) / 256 % 256 = a by omega, show (a * 256 + b) % 256 = b by omega]
theorem four_num {l : List Int} (h : byteL l) (hl : l.length = 4) : fourL (numP l) = l ∧ 0 ≤ numP l ∧ numP l ≤ 4294967295 := by
 obtain ⟨a, b, c, d, rfl⟩ := len_4 hl
 have h0 := h a (by simp)
 have h1 := h b (by simp)
 have h2 := h c (by simp)
 have h3 := h d (by simp)
 rw [numP_4 h]
 unfold fourL
 refine ⟨?_, by omega, by omega⟩
 rw [show (((a * 256 + b) * 256 + c) * 256 + d) / 16777216 % 256 = a by omega, show (((a * 256 + b) * 256 + c) * 256 + d) / 65536 % 256 = b by omega, show (((a * 256 + b) * 256 + c) * 256 + d) / 256 % 256 = c by omega, show (((a * 256 + b) * 256 + c) * 256 + d) % 256 = d by omega]
theorem takeF_app {k : Nat} {A : List Int} (B : List Int) (b : Bool) (h : A.length = k) : takeF k (A ++ B) b = (A, B, b) := by
 subst h
 unfold takeF
 rw [if_neg (by simp), List.take_left, List.drop_left]
theorem takeF_true {k : Nat} {l : List Int} {b : Bool} (h : (takeF k l b).2.2 = true) : b = true ∧ ∃ A B, l = A ++ B ∧ A.length = k ∧ takeF k l b = (A, B, true) := by
 unfold takeF at h ⊢
 by_cases hk : l.length < k
 ·rw [if_pos hk] at h
  cases h
 ·rw [if_neg hk] at h ⊢
  have h : b = true := h
  subst h
  exact ⟨rfl, l.take k, l.drop k, (List.take_append_drop k l).symm, by rw [List.length_take]; omega, rfl⟩
theorem takeF_flag {k : Nat} {l : List Int} {b : Bool} (h : (takeF k l b).2.2 = true) : b = true := (takeF_true h).1
def mkOut (p : Int) : Ot := ⟨p, decide (p ≥ 64)⟩
theorem outsR_app : ∀ (A B : List Int) (os : List Ot), byteL A → outsR A.length (A ++ B) true os = (os ++ A.map mkOut, B, true)
 | [], B, os, _ => by simp [outsR]
 | a :: A, B, os, h => by
  rw [byteL_cons] at h
  have h1 : byteL [a] := byteL_cons.2 ⟨h.1, fun y hy => by cases hy⟩
  rw [List.length_cons, outsR, show a :: A ++ B = [a] ++ (A ++ B) from rfl, takeF_app (A ++ B) true (show [a].length = 1 from rfl)]
  simp only [if_true]
  rw [numP_1 h1, outsR_app A B _ h.2, List.map_cons, List.append_assoc]
  rfl
theorem outsR_true : ∀ (n : Nat) (l : List Int) (b : Bool) (os : List Ot), byteL l → (outsR n l b os).2.2 = true → b = true ∧ ∃ A B, l = A ++ B ∧ A.length = n ∧ outsR n l b os = (os ++ A.map mkOut, B, true)
 | 0, l, b, os, _, h => ⟨h, [], l, rfl, rfl, by have h : b = true := h; subst h; simp [outsR]⟩
 | n + 1, l, b, os, hl, h => by
  rw [outsR] at h ⊢
  by_cases h1 : (takeF 1 l b).2.2 = true
  ·rw [if_pos h1] at h ⊢
   obtain ⟨rfl, A, B, rfl, hA, he⟩ := takeF_true h1
   rw [byteL_app] at hl
   rw [he] at h ⊢
   obtain ⟨a, rfl⟩ := len_1 hA
   rw [numP_1 hl.1] at h ⊢
   obtain ⟨-, A2, B2, rfl, hA2, he2⟩ := outsR_true n B true _ hl.2 h
   refine ⟨rfl, a :: A2, B2, rfl, by rw [List.length_cons, hA2], ?_⟩
   simp only
   rw [he2, List.map_cons, List.append_assoc]
   rfl
  ·rw [if_neg h1] at h
   exact absurd h h1
end Go.Proofs.Ytboonfidioombaa.P
