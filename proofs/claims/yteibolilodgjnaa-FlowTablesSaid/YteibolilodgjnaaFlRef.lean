/- The document's own functions of rows do what the program's do. -/
import Derived.Test.YteibolilodgjnaaFlTab
import Derived.Test.YteibolilodgjnaaPx10
import Derived.Test.YteibolilodgjnaaPx21
import Derived.Test.YteibolilodgjnaaPx22
import Derived.Test.YteibolilodgjnaaPx23
import Derived.Test.YteibolilodgjnaaPx24
namespace Go.Proofs.Yteibolilodgjnaa.P
set_option linter.unusedVariables false
set_option linter.unusedSimpArgs false
open Go.RowKit Go.Proofs.YteibolilodgjnaaW.PrintWords Go.Proofs.YteibolilodgjnaaW.PrintLast Go.Proofs.YteibolilodgjnaaW.PrintMore
theorem ff : ¬ (false = true) := by simp
/-! sameness -/
def outsB : List Ot → List Ot → Bool
  | a :: l, b :: m => ((a.f0 == b.f0) && (a.f1 == b.f1)) && outsB l m
  | _, _ => true
def sameB (r s : Ru) : Bool := (r.f0 == s.f0) && ((r.f1 == s.f1) && ((r.f2 == s.f2) && ((r.f3 == s.f3) && ((r.f4 == s.f4) && (((r.f5.length : Int) == (s.f5.length : Int)) && outsB r.f5 s.f5)))))
theorem rsame_loop (l m : List Ot) (hl : l.length ≤ 1000000) (he : l.length = m.length) (a0 a1 a2 a3 a4 b0 b1 b2 b3 b4 : Int) : ∀ (d i k : Nat), i + d = l.length → d + 1 ≤ k → stolonref15_Same.l0 k (i : Int) a0 a1 a2 a3 a4 l b0 b1 b2 b3 b4 m = some (outsB (l.drop i) (m.drop i)) := by
  intro d
  induction d with
  | zero =>
    intro i k hi hk
    obtain ⟨k, rfl⟩ : ∃ j, k = j + 1 := ⟨k - 1, by omega⟩
    rw [stolonref15_Same.l0, if_neg (by omega), List.drop_of_length_le (by omega), List.drop_of_length_le (by omega)]
    rfl
  | succ d ih =>
    intro i k hi hk
    obtain ⟨k, rfl⟩ : ∃ j, k = j + 1 := ⟨k - 1, by omega⟩
    have hlt : i < l.length := by omega
    have hlt2 : i < m.length := by omega
    have := ih (i + 1) k (by omega) (by omega)
    rw [Int.natCast_add] at this
    rw [stolonref15_Same.l0, if_pos (by omega), if_pos (by omega), if_pos (by omega), rd_ot l i hlt, rd_ot m i hlt2, fw64 (by omega), List.drop_eq_getElem_cons hlt, List.drop_eq_getElem_cons hlt2, outsB]
    cases h1 : (l[i]'hlt).f0 == (m[i]'hlt2).f0 with
    | false => rfl
    | true =>
      cases h2 : (l[i]'hlt).f1 == (m[i]'hlt2).f1 with
      | false => rfl
      | true => exact this
theorem rsame_ok (r s : Ru) (hl : r.f5.length ≤ 1000000) (k : Nat) (hk : r.f5.length + 2 ≤ k) : stolonref15_Same.f k r.f0 r.f1 r.f2 r.f3 r.f4 r.f5 s.f0 s.f1 s.f2 s.f3 s.f4 s.f5 = some (sameB r s) := by
  obtain ⟨k, rfl⟩ : ∃ j, k = j + 1 := ⟨k - 1, by omega⟩
  have no : ∀ x2 x3 x4 x5 x6 x7 x8 x9 x10 x11 x12 x13, stolonref15_Same.j0 (k + 1) true x2 x3 x4 x5 x6 x7 x8 x9 x10 x11 x12 x13 = some false := by
    intros
    rw [stolonref15_Same.j0, if_pos rfl]
  unfold stolonref15_Same.f sameB
  by_cases h0 : r.f0 = s.f0
  · rw [if_pos h0, beq_iff_eq.2 h0]
    by_cases h1 : r.f1 = s.f1
    · rw [if_pos h1, beq_iff_eq.2 h1]
      by_cases h2 : r.f2 = s.f2
      · rw [if_pos h2, beq_iff_eq.2 h2]
        by_cases h3 : r.f3 = s.f3
        · rw [if_pos h3, beq_iff_eq.2 h3]
          by_cases h4 : r.f4 = s.f4
          · rw [if_pos h4, beq_iff_eq.2 h4]
            by_cases h5 : (r.f5.length : Int) = (s.f5.length : Int)
            · rw [bne_eq_false_iff_eq.2 h5, beq_iff_eq.2 h5, stolonref15_Same.j0, if_neg ff]
              exact rsame_loop _ _ hl (by omega) _ _ _ _ _ _ _ _ _ _ r.f5.length 0 k (by omega) (by omega)
            · rw [bne_iff_ne.2 h5, beq_eq_false_iff_ne.2 h5, no]; rfl
          · rw [if_neg h4, beq_eq_false_iff_ne.2 h4, no]; rfl
        · rw [if_neg h3, beq_eq_false_iff_ne.2 h3, no]; rfl
      · rw [if_neg h2, beq_eq_false_iff_ne.2 h2, no]; rfl
    · rw [if_neg h1, beq_eq_false_iff_ne.2 h1, no]; rfl
  · rw [if_neg h0, beq_eq_false_iff_ne.2 h0, no]; rfl
theorem outs_loop (l m : List Ot) (hl : l.length ≤ 1000000) (he : l.length = m.length) : ∀ (d i k : Nat), i + d = l.length → d + 1 ≤ k → api_Out.l0 k l m (l.length : Int) (i : Int) = some (outsB (l.drop i) (m.drop i)) := by
  intro d
  induction d with
  | zero =>
    intro i k hi hk
    obtain ⟨k, rfl⟩ : ∃ j, k = j + 1 := ⟨k - 1, by omega⟩
    rw [api_Out.l0, if_neg (by omega), List.drop_of_length_le (by omega), List.drop_of_length_le (by omega)]
    rfl
  | succ d ih =>
    intro i k hi hk
    obtain ⟨k, rfl⟩ : ∃ j, k = j + 1 := ⟨k - 1, by omega⟩
    have hlt : i < l.length := by omega
    have hlt2 : i < m.length := by omega
    have := ih (i + 1) k (by omega) (by omega)
    rw [Int.natCast_add] at this
    rw [api_Out.l0, if_pos (by omega), if_pos (by omega), if_pos (by omega), if_pos (by omega), rd_ot l i hlt, rd_ot m i hlt2, fw64 (by omega), List.drop_eq_getElem_cons hlt, List.drop_eq_getElem_cons hlt2, outsB]
    cases h1 : (l[i]'hlt).f0 == (m[i]'hlt2).f0 with
    | false => rfl
    | true =>
      cases h2 : (l[i]'hlt).f1 == (m[i]'hlt2).f1 with
      | false => rfl
      | true => exact this
theorem same_ok (r s : Ru) (hl : r.f5.length ≤ 1000000) (k : Nat) (hk : r.f5.length + 2 ≤ k) : flow_Same.f k r.f0 r.f1 r.f2 r.f3 r.f4 r.f5 s.f0 s.f1 s.f2 s.f3 s.f4 s.f5 = some (sameB r s) := by
  unfold flow_Same.f flow_of.f sameB
  rw [fbs, fbs]
  simp only
  cases h0 : r.f0 == s.f0 with
  | false => rfl
  | true =>
    cases h1 : r.f1 == s.f1 with
    | false => rfl
    | true =>
      cases h2 : r.f2 == s.f2 with
      | false => rfl
      | true =>
        rw [if_pos (show (true && (true && true)) = true from rfl)]
        by_cases h3 : r.f3 = s.f3
        · rw [if_pos h3, beq_iff_eq.2 h3]
          by_cases h4 : r.f4 = s.f4
          · rw [if_pos h4, beq_iff_eq.2 h4]
            unfold api_Out.f
            by_cases h5 : (r.f5.length : Int) = (s.f5.length : Int)
            · rw [if_pos h5, beq_iff_eq.2 h5]
              have := outs_loop r.f5 s.f5 hl (by omega) r.f5.length 0 k (by omega) (by omega)
              rw [show ((0 : Nat) : Int) = 0 from rfl] at this
              rw [this, fbs]
              rfl
            · rw [if_neg h5, beq_eq_false_iff_ne.2 h5]; rfl
          · rw [if_neg h4, beq_eq_false_iff_ne.2 h4]; rfl
        · rw [if_neg h3, beq_eq_false_iff_ne.2 h3]; rfl
/-! which rows are tables -/
theorem order_ok (k : Nat) (hk : 4 ≤ k) (a0 a1 a2 a3 a4 : Int) (l5 : List Ot) (b0 b1 b2 : Int) : flow_order.f k a0 a1 a2 a3 a4 l5 b0 b1 b2 = some (ordK (a0, a1, a2) (b0, b1, b2)) :=
  at_rounds (fun k => flow_order.mono a0 a1 a2 a3 a4 l5 b0 b1 b2 k) hk (order_f a0 a1 a2 a3 a4 l5 b0 b1 b2)
theorem ord_lt (a b : Key) : ltK a b = (!(a == b) && !decide (ordK a b > 0)) := by
  unfold ordK
  cases h : ltK a b with
  | true =>
    rw [if_pos rfl, decide_eq_false (by omega), beq_eq_false_iff_ne.2 (ltK_ne h)]
    rfl
  | false =>
    rw [if_neg ff]
    cases h2 : ltK b a with
    | true => rw [if_pos rfl, decide_eq_true (by omega)]; simp
    | false =>
      rw [beq_iff_eq.2 (ltK_eq h h2)]
      rfl
theorem table_loop (l : List Ru) (hl : l.length ≤ 1000000) (hs : ∀ r ∈ l, smallR r) : ∀ (d i k : Nat) (p : Option Key), i + d = l.length → d + 2010 ≤ k → (i = 0 → p = none) → (0 < i → p = some (keyR (rd_T27 l ((i - 1 : Nat) : Int)))) →
    flow_Table.l0 k l l (l.length : Int) (i : Int) = some (tabB p (l.drop i)) := by
  intro d
  induction d with
  | zero =>
    intro i k p hi hk _ _
    obtain ⟨k, rfl⟩ : ∃ j, k = j + 1 := ⟨k - 1, by omega⟩
    rw [flow_Table.l0, if_neg (by omega), List.drop_of_length_le (by omega)]
    cases p <;> rfl
  | succ d ih =>
    intro i k p hi hk h0 h1
    obtain ⟨k, rfl⟩ : ∃ j, k = j + 1 := ⟨k - 1, by omega⟩
    have hlt : i < l.length := by omega
    have hsm := hs _ (List.getElem_mem hlt)
    have hnext := ih (i + 1) k (some (keyR (l[i]'hlt))) (by omega) (by omega) (fun e => by omega) (fun _ => by rw [← rd_ru l i hlt]; rfl)
    rw [Int.natCast_add, show ((1 : Nat) : Int) = 1 from rfl] at hnext
    rw [flow_Table.l0, if_pos (by omega), if_pos (by omega), if_pos (by omega), rd_ru l i hlt, right_ok _ (by have := hsm.1; omega) k (by have := hsm.1; omega), fbs, List.drop_eq_getElem_cons hlt, tabB_cons]
    cases rightR (l[i]'hlt) with
    | false => rfl
    | true =>
      rw [if_pos rfl, Bool.true_and]
      by_cases h5 : (i : Int) > 0
      · have hi0 : 0 < i := by omega
        have hw : wrap64 ((i : Int) - 1) = ((i - 1 : Nat) : Int) := by rw [fw64 (by omega)]; omega
        rw [if_pos h5, hw, if_pos (by omega), if_pos (by omega), h1 hi0]
        unfold flow_of.f
        rw [fbs, fbs, fbs, order_ok k (by omega), fbs]
        simp only
        generalize l[i]'hlt = x at hnext ⊢
        generalize rd_T27 l ((i - 1 : Nat) : Int) = y
        rw [ord_lt (keyR y) (keyR x)]
        have hb : (y.f0 == x.f0 && (y.f1 == x.f1 && (y.f2 == x.f2))) = (keyR y == keyR x) := rfl
        rw [hb]
        cases keyR y == keyR x with
        | true => rfl
        | false =>
          rw [if_neg ff]
          show (if ordK (keyR y) (keyR x) > 0 then _ else _) = _
          by_cases h6 : ordK (keyR y) (keyR x) > 0
          · rw [if_pos h6, decide_eq_true h6]; rfl
          · rw [if_neg h6, decide_eq_false h6, fw64 (by omega), hnext]; rfl
      · rw [if_neg h5, h0 (by omega), fw64 (by omega), hnext]
        rfl
theorem table_ok (l : List Ru) (hl : l.length ≤ 1000000) (hs : ∀ r ∈ l, smallR r) (k : Nat) (hk : l.length + 2010 ≤ k) : flow_Table.f k l = some (tabB none l) := by
  unfold flow_Table.f
  have := table_loop l hl hs l.length 0 k none (by omega) (by omega) (fun _ => rfl) (fun h => by omega)
  rwa [show ((0 : Nat) : Int) = 0 from rfl, List.drop_zero] at this
/-! where a key stands -/
def atF (key : Key) : List Ru → Int → Int
  | [], _ => -1
  | x :: t, i => if keyR x = key then i else atF key t (i + 1)
theorem at_loop (l : List Ru) (hl : l.length ≤ 1000000) (a b c : Int) : ∀ (d i k : Nat), i + d = l.length → d + 1 ≤ k → stolonref15_at.l0 k l a b c (i : Int) = some (atF (a, b, c) (l.drop i) (i : Int)) := by
  intro d
  induction d with
  | zero =>
    intro i k hi hk
    obtain ⟨k, rfl⟩ : ∃ j, k = j + 1 := ⟨k - 1, by omega⟩
    rw [stolonref15_at.l0, if_neg (by omega), List.drop_of_length_le (by omega)]
    rfl
  | succ d ih =>
    intro i k hi hk
    obtain ⟨k, rfl⟩ : ∃ j, k = j + 1 := ⟨k - 1, by omega⟩
    have hlt : i < l.length := by omega
    have := ih (i + 1) k (by omega) (by omega)
    rw [Int.natCast_add, show ((1 : Nat) : Int) = 1 from rfl] at this
    rw [stolonref15_at.l0, if_pos (by omega), if_pos (by omega), rd_ru l i hlt, fw64 (by omega), List.drop_eq_getElem_cons hlt, atF, this]
    unfold keyR
    simp only [Prod.mk.injEq]
    by_cases h0 : (l[i]'hlt).f0 = a
    · rw [if_pos h0]
      by_cases h1 : (l[i]'hlt).f1 = b
      · rw [if_pos h1]
        by_cases h2 : (l[i]'hlt).f2 = c
        · rw [if_pos h2, if_pos ⟨h0, h1, h2⟩]
        · rw [if_neg h2, if_neg (fun h => h2 h.2.2)]
      · rw [if_neg h1, if_neg (fun h => h1 h.2.1)]
    · rw [if_neg h0, if_neg (fun h => h0 h.1)]
theorem atF_skip (key : Key) : ∀ (A t : List Ru) (i : Int), (∀ x ∈ A, keyR x ≠ key) → atF key (A ++ t) i = atF key t (i + A.length)
  | [], t, i, _ => by simp
  | x :: A, t, i, h => by
    rw [List.cons_append, atF, if_neg (h x List.mem_cons_self), atF_skip key A t (i + 1) (fun y hy => h y (List.mem_cons_of_mem _ hy)), List.length_cons, Int.natCast_add]
    congr 1
    omega
theorem atF_place {l : List Ru} {key : Key} (hs : riseK l = true) : atF key l 0 = if placeB l key = true then ((placeK l key : Nat) : Int) else -1 := by
  obtain ⟨A, M, B, h, hp⟩ := part_of key l hs
  rw [part_at h hp, hp, h.eq, atF_skip key A _ 0 (fun x hx => ltK_ne (h.lo x hx)), Int.zero_add]
  rcases h.mid with rfl | ⟨x, rfl, hk⟩
  · have := atF_skip key B [] (A.length : Int) (fun x hx => (ltK_ne (h.hi x hx)).symm)
    rw [List.append_nil] at this
    rw [List.nil_append, this]
    rfl
  · rw [List.singleton_append, atF, if_pos hk]
    rfl
theorem at_ok (l : List Ru) (hs : riseK l = true) (hl : l.length ≤ 1000000) (a b c : Int) (k : Nat) (hk : l.length + 1 ≤ k) : stolonref15_at.f k l a b c = some (if placeB l (a, b, c) = true then ((placeK l (a, b, c) : Nat) : Int) else -1) := by
  unfold stolonref15_at.f
  have := at_loop l hl a b c l.length 0 k (by omega) hk
  rw [show ((0 : Nat) : Int) = 0 from rfl, List.drop_zero, atF_place hs] at this
  exact this
/-! what is taken away -/
theorem rdel_ok (l : List Ru) (hs : riseK l = true) (hl : l.length ≤ 100000) (a b c : Int) (k : Nat) (hk : l.length + 1 ≤ k) : stolonref15_Del.f k l a b c = some (delP l (a, b, c), placeB l (a, b, c)) := by
  unfold stolonref15_Del.f delP
  rw [at_ok l hs (by omega) a b c k hk, fbs]
  cases hb : placeB l (a, b, c) with
  | false => rw [if_neg ff, if_pos (by omega), if_neg ff]
  | true =>
    have hlt := place_has hb
    rw [if_pos rfl, if_neg (by omega), fbs, if_pos (by omega), if_pos (by omega), fbs, if_pos (by simp; omega), fbs, fw64 (by omega), if_pos (by omega), if_pos (by omega), fbs, if_pos (by simp; omega), if_pos rfl, List.eraseIdx_eq_take_drop_succ, Int.toNat_natCast, show (((placeK l (a, b, c) : Nat) : Int) + 1).toNat = placeK l (a, b, c) + 1 by omega]
    rfl
/-! what is laid -/
theorem putTo_lo (r : Ru) : ∀ (A xs : List Ru), (∀ x ∈ A, ltK (keyR x) (keyR r) = true) → A.foldl (putStep r) (xs, false) = (xs ++ A, false)
  | [], xs, _ => by simp
  | x :: A, xs, h => by
    rw [List.foldl_cons, putStep_res, h x List.mem_cons_self]
    show List.foldl (putStep r) (xs ++ [x], false) A = _
    rw [putTo_lo r A (xs ++ [x]) (fun y hy => h y (List.mem_cons_of_mem _ hy)), List.append_assoc]
    rfl
theorem putTo_hi (r : Ru) : ∀ (B xs : List Ru), (∀ x ∈ B, ltK (keyR r) (keyR x) = true) → B.foldl (putStep r) (xs, true) = (xs ++ B, true)
  | [], xs, _ => by simp
  | x :: B, xs, h => by
    have hx := h x List.mem_cons_self
    rw [List.foldl_cons, putStep_res, hx, ltK_asymm hx]
    show List.foldl (putStep r) (xs ++ [x], true) B = _
    rw [putTo_hi r B (xs ++ [x]) (fun y hy => h y (List.mem_cons_of_mem _ hy)), List.append_assoc]
    rfl
theorem refPut_ok {l : List Ru} (r : Ru) (hs : riseK l = true) : refPutF r l = putP l r := by
  obtain ⟨A, M, B, h, hp⟩ := part_of (keyR r) l hs
  rw [putP_part h hp, refPut_end, h.eq]
  unfold putTo
  rw [List.foldl_append, putTo_lo r A [] h.lo, List.nil_append]
  rcases h.mid with rfl | ⟨x, rfl, hk⟩
  · rw [List.nil_append]
    rcases hB : B with _ | ⟨y, B'⟩
    · rfl
    · have hy := h.hi y (by rw [hB]; exact List.mem_cons_self)
      rw [List.foldl_cons, putStep_res, hy, ltK_asymm hy]
      show endRes r (List.foldl (putStep r) (A ++ [r] ++ [y], true) B').1 (List.foldl (putStep r) (A ++ [r] ++ [y], true) B').2 = _
      rw [putTo_hi r B' _ (fun z hz => h.hi z (by rw [hB]; exact List.mem_cons_of_mem _ hz))]
      show A ++ [r] ++ [y] ++ B' = _
      simp
  · rw [List.singleton_append, List.foldl_cons, putStep_res, hk, ltK_irrefl]
    show endRes r (List.foldl (putStep r) (A ++ [r], true) B).1 (List.foldl (putStep r) (A ++ [r], true) B).2 = _
    rw [putTo_hi r B _ h.hi]
    show A ++ [r] ++ B = _
    simp
theorem rput_ok (l : List Ru) (r : Ru) (lim : Int) (hs : riseK l = true) (hl : l.length ≤ 100000) (hr : smallR r) (k : Nat) (hk : l.length + 2010 ≤ k) : stolonref15_Put.f k l r.f0 r.f1 r.f2 r.f3 r.f4 r.f5 lim = some (putR l r lim) := by
  have h5 := hr.1
  unfold stolonref15_Put.f
  rw [if_pos hl, rright_ok r hr.2 (by omega) k (by omega), fbs]
  unfold putR
  cases rightR r with
  | false => rw [if_neg ff, if_neg ff]
  | true =>
    rw [if_pos rfl, if_pos rfl, at_ok l hs (by omega) r.f0 r.f1 r.f2 k (by omega), fbs]
    have hrp := refPut_ok r hs
    have hk : keyR r = (r.f0, r.f1, r.f2) := rfl
    rw [hk]
    cases hb : placeB l (r.f0, r.f1, r.f2) with
    | true =>
      rw [if_pos rfl, if_pos rfl, if_neg (fun h => by have := h.1; omega)]
      exact congrArg (fun t => some (t, (0 : Int))) hrp
    | false =>
      rw [if_neg ff, if_neg ff]
      by_cases h7 : (l.length : Int) ≥ lim
      · rw [if_pos ⟨by omega, h7⟩, if_pos h7]
      · rw [if_neg (fun h => h7 h.2), if_neg h7]
        exact congrArg (fun t => some (t, (0 : Int))) hrp
end Go.Proofs.Yteibolilodgjnaa.P
