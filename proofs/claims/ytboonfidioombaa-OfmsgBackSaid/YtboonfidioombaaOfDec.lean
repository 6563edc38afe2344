/- Bytes taken for messages, a stream split, and rows compared: the program's functions, and the document's for what is the same, as plain ones. -/
import Derived.Test.YtboonfidioombaaOfSame
import Derived.Test.YtboonfidioombaaHOps
import Derived.Test.YtboonfidioombaaPx14
import Derived.Test.YtboonfidioombaaPx17
import Derived.Test.YtboonfidioombaaPx18
import Derived.Test.YtboonfidioombaaPx19
import Derived.Test.YtboonfidioombaaPx25
namespace Go.Proofs.Ytboonfidioombaa.P
set_option linter.unusedVariables false
set_option linter.unusedSimpArgs false
open Go.RowKit Go.Proofs.YtboonfidioombaaW.PrintWords Go.Proofs.YtboonfidioombaaW.PrintLast Go.Proofs.YtboonfidioombaaW.PrintMore
theorem rd_get (l : List Int) (k : Nat) (hk : k < l.length) : rd l (k : Int) = l[k]'hk := by
 unfold rd
 rw [Int.toNat_natCast, List.getD_eq_getElem?_getD, List.getElem?_eq_getElem hk, Option.getD_some]
theorem head_or {l : List Int} (hb : byteL l) (h : 2 ≤ l.length) : bits .or .i64 (wrap64 ((wrap64 (rd l 0)) * 256)) (wrap64 (rd l 1)) = headN l ∧ 0 ≤ headN l ∧ headN l ≤ 65535 := by
 have e0 := rd_get l 0 (by omega)
 have e1 := rd_get l 1 (by omega)
 have h0 := hb _ (List.getElem_mem (show 0 < l.length by omega))
 have h1 := hb _ (List.getElem_mem (show 1 < l.length by omega))
 rw [← e0] at h0
 rw [← e1] at h1
 have g0 : rd l 0 = l.getD 0 0 := rfl
 have g1 : rd l 1 = l.getD 1 0 := rfl
 have h0 : 0 ≤ rd l 0 ∧ rd l 0 ≤ 255 := h0
 have h1 : 0 ≤ rd l 1 ∧ rd l 1 ≤ 255 := h1
 have := numStep_ok (rd l 0) (rd l 1) h0.1 (by omega) h1.1 h1.2
 unfold numStep at this
 rw [fw64 (by omega) (x := rd l 0), this]
 unfold headN
 rw [← g0, ← g1]
 exact ⟨rfl, by omega, by omega⟩
abbrev DecR := Int × Int × Int × Int × Int × Int × Int × List Ot × Int × Bool × List Int × Int
def toD (x : Ms × Int) : DecR := (x.1.f0, x.1.f1, x.1.f2.f0, x.1.f2.f1, x.1.f2.f2, x.1.f2.f3, x.1.f2.f4, x.1.f2.f5, x.1.f3, x.1.f4, x.1.f5, x.2)
theorem outsR_len : ∀ (n : Nat) (l : List Int) (b : Bool) (os : List Ot), (outsR n l b os).1.length ≤ os.length + l.length
 | 0, l, b, os => Nat.le_add_right _ _
 | n + 1, l, b, os => by
  rw [outsR]
  by_cases h : (takeF 1 l b).2.2 = true
  ·rw [if_pos h]
   have h1 := takeF_one l b h
   have h2 := outsR_len n (takeF 1 l b).2.1 (takeF 1 l b).2.2 (os ++ [⟨numP (takeF 1 l b).1, decide (numP (takeF 1 l b).1 ≥ 64)⟩])
   rw [List.length_append, List.length_singleton] at h2
   omega
  ·rw [if_neg h]
   exact Nat.le_add_right _ _
theorem readL_len (l : List Int) : (ofR (readL l)).f2.f5.length ≤ l.length ∧ (ofR (readL l)).f5.length ≤ l.length := by
 have hle := takeF_le
 have hin : ∀ (kd xd : Int) (b : Bool) (t : List Int), t.length ≤ l.length → (ofR (readK kd xd t b)).f2.f5.length ≤ l.length ∧ (ofR (readK kd xd t b)).f5.length ≤ l.length := by
  intro kd xd b t ht
  unfold readK
  split
  ·refine ⟨?_, by unfold readRule readPut readPut2 ofR; exact Nat.zero_le _⟩
   unfold readRule readPut readPut2 ofR
   simp only
   refine Nat.le_trans (outsR_len _ _ _ _) ?_
   rw [List.length_nil, Nat.zero_add]
   exact Nat.le_trans (hle _ _ _) (Nat.le_trans (hle _ _ _) (Nat.le_trans (hle _ _ _) (Nat.le_trans (hle _ _ _) (Nat.le_trans (hle _ _ _) (Nat.le_trans (hle _ _ _) ht)))))
  ·split
   ·unfold readRule readDel ofR; exact ⟨Nat.zero_le _, Nat.zero_le _⟩
   ·split
    ·unfold readLink ofR; exact ⟨Nat.zero_le _, Nat.zero_le _⟩
    ·split
     ·unfold readBytes ofR; exact ⟨Nat.zero_le _, Nat.le_trans (hle _ _ _) ht⟩
     ·unfold ofR; exact ⟨Nat.zero_le _, Nat.zero_le _⟩
 unfold readL
 exact hin _ _ _ _ (Nat.le_trans (hle _ _ _) (Nat.le_trans (hle _ _ _) (hle _ _ _)))
theorem decode_ok (l : List Int) (hb : byteL l) (hl : l.length ≤ 1000000) (k : Nat) (hk : l.length + 4 ≤ k) : ofmsg_Decode.f k l = some (toD (decF l)) := by
 obtain ⟨k, rfl⟩ : ∃ j, k = j + 1 := ⟨k - 1, by omega⟩
 have hj : ∀ b, ofmsg_Decode.j0 (k + 1) l b = some (toD (if b = true then (zM, 3) else if okR (readL l) = true ∧ 2 ≤ l.length ∧ (l.length : Int) = headN l ∧ rightM (ofR (readL l)) = true then (ofR (readL l), 0) else (zM, 2))) ∨ (¬ 2 ≤ l.length ∧ b = false) := by
  intro b
  cases b with
  | true => left; rw [ofmsg_Decode.j0, if_pos rfl, if_pos rfl]; rfl
  | false =>
   by_cases h2 : 2 ≤ l.length
   ·left
    obtain ⟨g1, g2, g3⟩ := head_or hb h2
    rw [ofmsg_Decode.j0, if_neg (by simp), if_neg (by simp), read_ok l hl, fbs, show (readL l).2.2.2.2.2.2.2.2.2.2.2 = okR (readL l) from rfl]
    cases ho : okR (readL l) with
    | false => rw [if_neg (by simp), if_neg (by simp)]; rfl
    | true =>
     rw [if_pos rfl, if_pos (by omega), if_pos (by omega), g1]
     by_cases h3 : (l.length : Int) = headN l
     ·rw [if_pos h3]
      have hm := mright_ok (ofR (readL l)) (by have := (readL_len l).1; omega) k (by have := (readL_len l).1; omega)
      have hm' : ofmsg_Right.f k (readL l).1 (readL l).2.1 (readL l).2.2.1 (readL l).2.2.2.1 (readL l).2.2.2.2.1 (readL l).2.2.2.2.2.1 (readL l).2.2.2.2.2.2.1 (readL l).2.2.2.2.2.2.2.1 (readL l).2.2.2.2.2.2.2.2.1 (readL l).2.2.2.2.2.2.2.2.2.1 (readL l).2.2.2.2.2.2.2.2.2.2.1 = some (rightM (ofR (readL l))) := hm
      rw [hm', fbs]
      cases hr : rightM (ofR (readL l)) with
      | false => rw [if_neg (by simp), if_neg (by simp)]; rfl
      | true =>
       have hc : slices_Clone_byte_byte.f (readL l).2.2.2.2.2.2.2.2.2.2.1 = some (readL l).2.2.2.2.2.2.2.2.2.2.1 := by
        unfold slices_Clone_byte_byte.f
        rw [if_pos ?_]
        have := (readL_len l).2
        have h5 : ((ofR (readL l)).f5.length : Int) ≤ 1000000 := by omega
        exact h5
       rw [if_pos rfl, hc, fbs, if_pos ⟨rfl, h2, h3, rfl⟩]
       rfl
     ·rw [if_neg h3, if_neg (fun h => h3 h.2.2.1)]
      rfl
   ·exact .inr ⟨h2, rfl⟩
 unfold ofmsg_Decode.f decF
 by_cases h7 : (l.length : Int) < 7
 ·rw [if_pos h7, if_pos (.inl h7)]
  rcases hj true with h | h
  ·rw [h, if_pos rfl]
  ·exact absurd h.2 (by simp)
 ·obtain ⟨g1, g2, g3⟩ := head_or hb (by omega)
  rw [if_neg h7, if_pos (by omega), if_pos (by omega), g1]
  rcases hj (decide ((l.length : Int) < headN l)) with h | h
  ·rw [h]
   by_cases h8 : (l.length : Int) < headN l
   ·rw [if_pos (by simpa using h8), if_pos (.inr h8)]
   ·rw [if_neg (show ¬ (decide ((l.length : Int) < headN l) = true) by simpa using h8), if_neg (show ¬ ((l.length : Int) < 7 ∨ (l.length : Int) < headN l) from fun h => h.elim h7 h8)]
    congr 2
    by_cases h9 : okR (readL l) = true ∧ (l.length : Int) = headN l ∧ rightM (ofR (readL l)) = true
    ·rw [if_pos h9, if_pos ⟨h9.1, by omega, h9.2⟩]
    ·rw [if_neg h9, if_neg (fun h => h9 ⟨h.1, h.2.2⟩)]
  ·exact absurd h.1 (by omega)
theorem split_loop : ∀ (n : Nat) (b : List Int) (out : List Ms) (k : Nat), byteL b → b.length < n → b.length + n + 5 ≤ k → b.length ≤ 1000000 → out.length + b.length ≤ 100000000 → ofmsg_Split.l0 k b out = some (splitF n b out)
 | 0, b, out, k, _, h, _, _, _ => absurd h (by omega)
 | n + 1, b, out, k, hb, hn, hk, hl, ho => by
  obtain ⟨k, rfl⟩ : ∃ j, k = j + 1 := ⟨k - 1, by omega⟩
  rw [ofmsg_Split.l0, splitF]
  by_cases h2 : (b.length : Int) ≥ 2
  ·obtain ⟨g1, g2, g3⟩ := head_or hb (by omega)
   rw [if_pos h2, if_pos h2, if_pos (by omega), if_pos (by omega), g1]
   by_cases h3 : (b.length : Int) < headN b
   ·rw [if_pos h3, if_pos h3]
   ·have htl : (b.take (headN b).toNat).length ≤ b.length := by rw [List.length_take]; omega
    rw [if_neg h3, if_neg h3, if_pos g2, if_pos (by omega), decode_ok _ (fun y hy => hb y (List.mem_of_mem_take hy)) (by omega) k (by omega), fbs, show (toD (decF (b.take (headN b).toNat))).2.2.2.2.2.2.2.2.2.2.2 = (decF (b.take (headN b).toNat)).2 from rfl]
    by_cases h4 : (decF (b.take (headN b).toNat)).2 = 0
    ·have h5 := (dec_ok (fun y hy => hb y (List.mem_of_mem_take hy)) h4).2.2.2.1
     rw [List.length_take] at h5
     rw [if_pos h4, if_pos h4, if_pos (by omega)]
     have := split_loop n (b.drop (headN b).toNat) (out ++ [(decF (b.take (headN b).toNat)).1]) k (fun y hy => hb y (List.mem_of_mem_drop hy)) (by rw [List.length_drop]; omega) (by rw [List.length_drop]; omega) (by rw [List.length_drop]; omega) (by rw [List.length_drop, List.length_append, List.length_singleton]; omega)
     exact this
    ·rw [if_neg h4, if_neg h4]
  ·rw [if_neg h2, if_neg h2]
theorem split_ok (b : List Int) (hb : byteL b) (hl : b.length ≤ 1000000) (k : Nat) (hk : b.length + b.length + 6 ≤ k) : ofmsg_Split.f k b = some (splitF (b.length + 1) b []) := split_loop (b.length + 1) b [] k hb (by omega) (by omega) hl (by simp; omega)
theorem bsame_loop (a b : List Int) (hl : a.length ≤ 1000000) (he : a.length = b.length) : ∀ (d i k : Nat), i + d = a.length → d + 1 ≤ k → stolonref01_Same.l0 k a b (i : Int) = some (decide (a.drop i = b.drop i)) := by
 intro d
 induction d with
 | zero =>
  intro i k hi hk
  obtain ⟨k, rfl⟩ : ∃ j, k = j + 1 := ⟨k - 1, by omega⟩
  rw [stolonref01_Same.l0, if_neg (by omega), List.drop_of_length_le (by omega), List.drop_of_length_le (by omega)]
  rfl
 | succ d ih =>
  intro i k hi hk
  obtain ⟨k, rfl⟩ : ∃ j, k = j + 1 := ⟨k - 1, by omega⟩
  have h1 : i < a.length := by omega
  have h2 : i < b.length := by omega
  have := ih (i + 1) k (by omega) (by omega)
  rw [Int.natCast_add] at this
  rw [stolonref01_Same.l0, if_pos (by omega), if_pos (by omega), if_pos (by omega), rd_get a i h1, rd_get b i h2, fw64 (by omega), show ((i : Int) + 1) = (i : Int) + ((1 : Nat) : Int) from rfl, this, List.drop_eq_getElem_cons h1, List.drop_eq_getElem_cons h2]
  by_cases h : a[i]'h1 = b[i]'h2
  ·rw [if_pos h]
   congr 1
   rw [decide_eq_decide]
   exact ⟨fun e => by rw [h, e], fun e => (List.cons.inj e).2⟩
  ·rw [if_neg h, decide_eq_false (fun e => h (List.cons.inj e).1)]
theorem bsame_ok (a b : List Int) (hl : a.length ≤ 1000000) (k : Nat) (hk : a.length + 1 ≤ k) : stolonref01_Same.f k a b = some (decide (a = b)) := by
 unfold stolonref01_Same.f
 by_cases h : (a.length : Int) = (b.length : Int)
 ·rw [if_pos h]
  have := bsame_loop a b hl (by omega) a.length 0 k (by omega) hk
  rwa [show ((0 : Nat) : Int) = 0 from rfl, List.drop_zero, List.drop_zero] at this
 ·rw [if_neg h, decide_eq_false (fun e => h (by rw [e]))]
def sameRef (m n : Ms) : Bool := sameB m.f2 n.f2 && ((m.f0 == n.f0) && ((m.f1 == n.f1) && ((m.f3 == n.f3) && ((m.f4 == n.f4) && decide (m.f5 = n.f5)))))
theorem rmsame_ok (m n : Ms) (hl : m.f2.f5.length ≤ 1000000) (hf : m.f5.length ≤ 1000000) (k : Nat) (hk : m.f2.f5.length + 2 ≤ k) (hk2 : m.f5.length + 1 ≤ k) : stolonref16_Same.f k m.f0 m.f1 m.f2.f0 m.f2.f1 m.f2.f2 m.f2.f3 m.f2.f4 m.f2.f5 m.f3 m.f4 m.f5 n.f0 n.f1 n.f2.f0 n.f2.f1 n.f2.f2 n.f2.f3 n.f2.f4 n.f2.f5 n.f3 n.f4 n.f5 = some (sameRef m n) := by
 unfold stolonref16_Same.f sameRef
 rw [rsame_ok m.f2 n.f2 hl k hk, fbs]
 cases sameB m.f2 n.f2 with
 | false => rfl
 | true =>
  rw [if_pos rfl, Bool.true_and]
  by_cases h0 : m.f0 = n.f0
  ·rw [if_pos h0, beq_iff_eq.2 h0]
   by_cases h1 : m.f1 = n.f1
   ·rw [if_pos h1, beq_iff_eq.2 h1]
    by_cases h3 : m.f3 = n.f3
    ·rw [if_pos h3, beq_iff_eq.2 h3]
     cases m.f4 == n.f4 with
     | false => rfl
     | true => rw [if_pos rfl, bsame_ok _ _ hf k hk2]; rfl
    ·rw [if_neg h3, beq_eq_false_iff_ne.2 h3]; rfl
   ·rw [if_neg h1, beq_eq_false_iff_ne.2 h1]; rfl
  ·rw [if_neg h0, beq_eq_false_iff_ne.2 h0]; rfl
theorem outsB_eq : ∀ l m : List Ot, l.length = m.length → outsB l m = true → l = m
 | [], [], _, _ => rfl
 | a :: l, b :: m, hl, h => by
  rw [outsB] at h
  simp only [Bool.and_eq_true, beq_iff_eq] at h
  rw [outsB_eq l m (by simpa using hl) h.2]
  obtain ⟨p, q⟩ := a
  obtain ⟨p', q'⟩ := b
  simp only at h
  rw [h.1.1, h.1.2]
 | [], b :: m, hl, _ => by simp at hl
 | a :: l, [], hl, _ => by simp at hl
theorem sameB_eq {r s : Ru} (h : sameB r s = true) : r = s := by
 unfold sameB at h
 simp only [Bool.and_eq_true, beq_iff_eq] at h
 obtain ⟨h0, h1, h2, h3, h4, h5, h6⟩ := h
 have := outsB_eq _ _ (by omega) h6
 obtain ⟨a, b, c, d, e, f⟩ := r
 obtain ⟨a', b', c', d', e', f'⟩ := s
 simp only at h0 h1 h2 h3 h4 this
 rw [h0, h1, h2, h3, h4, this]
theorem sameRef_iff {m n : Ms} : sameRef m n = true ↔ m = n := by
 constructor
 ·intro h
  unfold sameRef at h
  simp only [Bool.and_eq_true, beq_iff_eq, decide_eq_true_eq] at h
  obtain ⟨h0, h1, h2, h3, h4, h5⟩ := h
  have h0 := sameB_eq h0
  obtain ⟨a, b, c, d, e, f⟩ := m
  obtain ⟨a', b', c', d', e', f'⟩ := n
  simp only at h0 h1 h2 h3 h4 h5
  rw [h0, h1, h2, h3, h4, h5]
 ·rintro rfl
  unfold sameRef
  rw [sameB_refl]
  simp
theorem rd_ms (l : List Ms) (k : Nat) (hk : k < l.length) : rd_T29 l (k : Int) = l[k]'hk := by
 unfold rd_T29
 rw [Int.toNat_natCast, List.getD_eq_getElem?_getD, List.getElem?_eq_getElem hk, Option.getD_some]
theorem shown_ok (k : Nat) (hk : 100 ≤ k) : stolonlaw16_shown.f k = some true := by
 have h : stolonlaw16_shown.f 100 = some true := by decide +kernel
 exact at_rounds (fun k => stolonlaw16_shown.mono k) hk h
theorem wm_of {m : Ms} (h : wf29 m) : WM m := by
 have u32 : ∀ {x : Int}, (Lit.int .u32 x).wf = true → 0 ≤ x ∧ x ≤ 4294967295 := by
  intro x h
  simp [Lit.wf, IntKind.min, IntKind.max, IntKind.signed, IntKind.bits] at h
  omega
 have u8 : ∀ {x : Int}, (Lit.int .u8 x).wf = true → 0 ≤ x ∧ x ≤ 255 := by
  intro x h
  simp [Lit.wf, IntKind.min, IntKind.max, IntKind.signed, IntKind.bits] at h
  omega
 obtain ⟨h0, h1, h2, h3, h4, h5⟩ := h
 obtain ⟨g0, g1, g2, g3, g4, g5⟩ := h2
 exact ⟨u8 h0, u32 h1, u32 g0, u32 g1, u32 g2, u32 g4, fun y hy => u8 (h5.2.2 y hy)⟩
end Go.Proofs.Ytboonfidioombaa.P
