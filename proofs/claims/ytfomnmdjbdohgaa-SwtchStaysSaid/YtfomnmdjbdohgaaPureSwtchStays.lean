/- SwtchStays over numbers and lists. -/
import Derived.Test.YtfomnmdjbdohgaaStSwtchStays
import Derived.Test.YtfomnmdjbdohgaaSwAll
namespace Go.Proofs.Ytfomnmdjbdohgaa.Pure
set_option linter.unusedVariables false
set_option linter.unusedSimpArgs false
open Go.RowKit Go.Proofs.Ytfomnmdjbdohgaa.P Go.Proofs.YtfomnmdjbdohgaaW.PrintWords Go.Proofs.YtfomnmdjbdohgaaW.PrintLast Go.Proofs.YtfomnmdjbdohgaaW.PrintMore
/-- What barriers are answered, in order. -/
def doneL (l : List Ms) : List Int := (l.filter (fun m => rightM m && (m.f0 == 3))).map (·.f1)
def doneB (b : List Ms) : List Int := (b.filter (fun m => m.f0 == 4)).map (·.f1)
theorem doneB_pos {m : Ms} (t : List Ms) (h : m.f0 = 4) : doneB (m :: t) = m.f1 :: doneB t := by simp [doneB, h]
theorem doneB_neg {m : Ms} (t : List Ms) (h : ¬ m.f0 = 4) : doneB (m :: t) = doneB t := by simp [doneB, h]
theorem step_done (lim : Int) (m : Ms) (st : SwS) : doneB (swStep lim m st).2.1 = doneB st.2.1 ++ doneL [m] := by
  unfold swStep doneB doneL
  by_cases hr : rightM m = true
  · rw [if_pos hr]
    by_cases h1 : m.f0 = 1
    · rw [if_pos h1]
      split <;> simp [h1, bare32]
    rw [if_neg h1]
    by_cases h2 : m.f0 = 2
    · rw [if_pos h2]; simp [h2]
    rw [if_neg h2]
    by_cases h6 : m.f0 = 6
    · rw [if_pos h6]; simp [h6]
    rw [if_neg h6]
    by_cases h3 : m.f0 = 3
    · rw [if_pos h3]; simp [h3, hr, bare32]
    rw [if_neg h3]
    split <;> simp [h3]
  · rw [if_neg hr]
    simp [hr]
theorem all_done (lim : Int) : ∀ (l : List Ms) (st : SwS), doneB (swAll lim l st).2.1 = doneB st.2.1 ++ doneL l
  | [], st => by simp [swAll, doneL]
  | m :: t, st => by
    have e : swAll lim (m :: t) st = swAll lim t (swStep lim m st) := rfl
    rw [e, all_done lim t, step_done, List.append_assoc]
    congr 1
    unfold doneL
    rw [← List.map_append, ← List.filter_append]
    rfl
/-- A rule whose key no message tells, and no wipe, stays. -/
theorem step_stay {lim : Int} {m : Ms} {st : SwS} {x : Ru} (h : SwOk lim st.1) (hm : MOk m) (hx : x ∈ st.1) (hk : keyR m.f2 ≠ keyR x) (hw : ¬ (rightM m = true ∧ m.f0 = 6)) : x ∈ (swStep lim m st).1 := by
  unfold swStep
  split
  · rename_i hr
    split
    · unfold putR
      have hp : x ∈ putP st.1 m.f2 := (mem_putP h.rise x).2 (.inr ⟨hx, fun e => hk e.symm⟩)
      repeat' split
      all_goals first | exact hp | exact hx
    · split
      · exact (mem_delP h.rise x).2 ⟨hx, fun e => hk (by rw [e]; rfl)⟩
      · split
        · rename_i h6
          exact absurd ⟨hr, h6⟩ hw
        · split
          · exact hx
          · split <;> exact hx
  · exact hx
theorem all_stay {lim : Int} {x : Ru} : ∀ (l : List Ms) (st : SwS), SwOk lim st.1 → (∀ m ∈ l, MOk m) → x ∈ st.1 → (∀ m ∈ l, keyR m.f2 ≠ keyR x ∧ ¬ (rightM m = true ∧ m.f0 = 6)) → x ∈ (swAll lim l st).1
  | [], st, _, _, h, _ => h
  | m :: t, st, hs, hm, hx, hk => by
    have hm0 := hm m (List.mem_cons_self ..)
    exact all_stay t (swStep lim m st) (hs.step hm0) (fun y hy => hm y (List.mem_cons_of_mem _ hy)) (step_stay hs hm0 hx (hk m (List.mem_cons_self ..)).1 (hk m (List.mem_cons_self ..)).2) (fun y hy => hk y (List.mem_cons_of_mem _ hy))
section
variable (l : List Ms) (lim : Int) (r : List Ru) (a : Int) (q : List Ru) (back : List Ms)
theorem stay4 (hq : ∀ y ∈ q, smallR y) (hlq : q.length ≤ 1000000) (x : Ru) (w told : Bool) (i : Int) (hi0 : 0 ≤ i) (hi1 : i ≤ 100000) : ∀ (d j k : Nat) (b : Bool), j + d = q.length → d + 5010 ≤ k → (told || (b || (q.drop j).any (fun y => sameB y x))) = true →
    ∃ k1, 5000 ≤ k1 + 0 ∧ k ≤ k1 + d + 1 ∧ stolonlaw17_SwtchStays.l4 k l true w i told b (j : Int) lim r a q x.f0 x.f1 x.f2 x.f3 x.f4 x.f5 = stolonlaw17_SwtchStays.l2 k1 l true w (i + 1) lim r a q := by
  intro d
  induction d with
  | zero =>
    intro j k b hj hk hb
    obtain ⟨k, rfl⟩ : ∃ z, k = z + 1 := ⟨k - 1, by omega⟩
    refine ⟨k, by omega, by omega, ?_⟩
    rw [stolonlaw17_SwtchStays.l4, if_neg (by omega), fw64 (by omega)]
    rw [List.drop_of_length_le (by omega), List.any_nil, Bool.or_false] at hb
    cases told with
    | true => rw [if_pos rfl]
    | false =>
      rw [Bool.false_or] at hb
      rw [if_neg (by simp), if_pos hb]
  | succ d ih =>
    intro j k b hj hk hb
    obtain ⟨k, rfl⟩ : ∃ z, k = z + 1 := ⟨k - 1, by omega⟩
    have h1 : j < q.length := by omega
    have h2 := hq _ (List.getElem_mem h1)
    rw [List.drop_eq_getElem_cons h1, List.any_cons] at hb
    have fin : ∀ b2 : Bool, (told || (b2 || (q.drop (j + 1)).any (fun y => sameB y x))) = true → ∃ k1, 5000 ≤ k1 + 0 ∧ k + 1 ≤ k1 + (d + 1) + 1 ∧ stolonlaw17_SwtchStays.l4 k l true w i told b2 ((j : Int) + 1) lim r a q x.f0 x.f1 x.f2 x.f3 x.f4 x.f5 = stolonlaw17_SwtchStays.l2 k1 l true w (i + 1) lim r a q := by
      intro b2 hb2
      obtain ⟨k1, h3, h4, h5⟩ := ih (j + 1) k b2 (by omega) (by omega) hb2
      rw [Int.natCast_add, Int.natCast_one] at h5
      exact ⟨k1, h3, by omega, h5⟩
    rw [stolonlaw17_SwtchStays.l4, if_pos (by omega), fw64 (x := (j : Int) + 1) (by omega)]
    cases b with
    | true =>
      rw [if_pos rfl]
      exact fin true (by simp)
    | false =>
      rw [if_neg (by simp), if_pos (by omega), rd_ru q j h1, rsame_ok _ _ (by have := h2.1; omega) k (by have := h2.1; omega), fbs]
      exact fin _ (by rw [Bool.false_or] at hb; exact hb)
def toldB (x : Ru) (ms : List Ms) : Bool := ms.any (fun m => decide (keyR m.f2 = keyR x))
theorem stay3 (hll : l.length ≤ 3000) (x : Ru) (w : Bool) (i : Int) : ∀ (d j k : Nat) (b : Bool), j + d = l.length → d + 1 ≤ k →
    ∃ k1, k = k1 + d + 1 ∧ stolonlaw17_SwtchStays.l3 k l true w i b (j : Int) lim r a q x.f0 x.f1 x.f2 x.f3 x.f4 x.f5 = stolonlaw17_SwtchStays.l4 k1 l true w i (b || toldB x (l.drop j)) false 0 lim r a q x.f0 x.f1 x.f2 x.f3 x.f4 x.f5 := by
  intro d
  induction d with
  | zero =>
    intro j k b hj hk
    obtain ⟨k, rfl⟩ : ∃ z, k = z + 1 := ⟨k - 1, by omega⟩
    refine ⟨k, by omega, ?_⟩
    rw [stolonlaw17_SwtchStays.l3, if_neg (by omega), List.drop_of_length_le (by omega)]
    simp [toldB]
  | succ d ih =>
    intro j k b hj hk
    obtain ⟨k, rfl⟩ : ∃ z, k = z + 1 := ⟨k - 1, by omega⟩
    have h1 : j < l.length := by omega
    have fin : ∀ b2 : Bool, b2 = (b || decide (keyR l[j].f2 = keyR x)) → ∃ k1, k + 1 = k1 + (d + 1) + 1 ∧ stolonlaw17_SwtchStays.l3 k l true w i b2 ((j : Int) + 1) lim r a q x.f0 x.f1 x.f2 x.f3 x.f4 x.f5 = stolonlaw17_SwtchStays.l4 k1 l true w i (b || toldB x (l.drop j)) false 0 lim r a q x.f0 x.f1 x.f2 x.f3 x.f4 x.f5 := by
      intro b2 hb2
      obtain ⟨k1, h3, h5⟩ := ih (j + 1) k b2 (by omega) (by omega)
      rw [Int.natCast_add, Int.natCast_one] at h5
      refine ⟨k1, by omega, ?_⟩
      rw [h5, hb2, List.drop_eq_getElem_cons h1]
      unfold toldB
      rw [List.any_cons, Bool.or_assoc]
    rw [stolonlaw17_SwtchStays.l3, if_pos (by omega), if_pos (by omega), rd_ms l j h1, fw64 (by omega)]
    have hk3 : keyR l[j].f2 = keyR x ↔ l[j].f2.f0 = x.f0 ∧ l[j].f2.f1 = x.f1 ∧ l[j].f2.f2 = x.f2 := by unfold keyR; simp
    cases b with
    | true =>
      rw [if_pos rfl]
      exact fin true (by simp)
    | false =>
      rw [if_neg (by simp)]
      by_cases e0 : l[j].f2.f0 = x.f0
      · rw [if_pos e0]
        by_cases e1 : l[j].f2.f1 = x.f1
        · rw [if_pos e1]
          refine fin _ ?_
          rw [Bool.false_or, Bool.eq_iff_iff, beq_iff_eq, decide_eq_true_eq, hk3]
          simp [e0, e1]
        · rw [if_neg e1]
          refine fin _ ?_
          symm
          rw [Bool.false_or, decide_eq_false_iff_not, hk3]
          simp [e1]
      · rw [if_neg e0]
        refine fin _ ?_
        symm
        rw [Bool.false_or, decide_eq_false_iff_not, hk3]
        simp [e0]
set_option maxRecDepth 100000 in
theorem stay2 (hll : l.length ≤ 3000) (hlr : r.length ≤ 2000) (hq : ∀ y ∈ q, smallR y) (hlq : q.length ≤ 2000) (w : Bool) (hst : w = false → ∀ x ∈ r, toldB x l = true ∨ x ∈ q) : ∀ (d i k : Nat), i + d = r.length → d * 5010 + 12000 ≤ k →
    stolonlaw17_SwtchStays.l2 k l true w (i : Int) lim r a q = some true := by
  intro d
  induction d with
  | zero =>
    intro i k hi hk
    obtain ⟨k, rfl⟩ : ∃ z, k = z + 1 + 1 := ⟨k - 2, by omega⟩
    rw [stolonlaw17_SwtchStays.l2, if_neg (by omega), stolonlaw17_SwtchStays.j6]
    rfl
  | succ d ih =>
    intro i k hi hk
    obtain ⟨k, rfl⟩ : ∃ z, k = z + 1 + 1 := ⟨k - 2, by omega⟩
    have h1 : i < r.length := by omega
    rw [stolonlaw17_SwtchStays.l2, if_pos (by omega), stolonlaw17_SwtchStays.j6]
    cases w with
    | true => rfl
    | false =>
      rw [Bool.not_false, if_pos rfl, if_pos (by omega), if_pos (by omega), rd_ru r i h1]
      obtain ⟨k1, h3, h4⟩ := stay3 l lim r a q hll r[i] false i l.length 0 k false (by omega) (by omega)
      rw [show ((0 : Nat) : Int) = 0 from rfl] at h4
      rw [h4, List.drop_zero, Bool.false_or]
      obtain ⟨k2, h5, h6, h7⟩ := stay4 l lim r a q hq (by omega) r[i] false (toldB r[i] l) i (by omega) (by omega) q.length 0 k1 false (by omega) (by omega) (by
        rcases hst rfl _ (List.getElem_mem h1) with h | h
        · rw [h]; rfl
        · have hany : q.any (fun y => sameB y r[i]) = true := List.any_eq_true.2 ⟨_, h, sameB_refl _⟩
          rw [List.drop_zero, Bool.false_or, hany, Bool.or_true])
      rw [show ((0 : Nat) : Int) = 0 from rfl] at h7
      rw [h7]
      have := ih (i + 1) k2 (by omega) (by omega)
      rw [Int.natCast_add, Int.natCast_one] at this
      exact this
/-- The next answer to a barrier. -/
theorem stay1 (hlb : back.length ≤ 3000) (w : Bool) (i : Nat) (hi : i < l.length) (hll : l.length ≤ 3000) (x : Int) (xs : List Int) (hx : x = l[i].f1) : ∀ (d n k : Nat), n + d = back.length → d + 1 ≤ k → doneB (back.drop n) = x :: xs →
    ∃ k1 n1, k ≤ k1 + (n1 - n) + 0 ∧ n < n1 ∧ n1 ≤ back.length ∧ doneB (back.drop n1) = xs ∧ stolonlaw17_SwtchStays.l1 k l true back (n : Int) w (i : Int) lim r a q = stolonlaw17_SwtchStays.l0 k1 l true back (n1 : Int) w ((i : Int) + 1) lim r a q := by
  intro d
  induction d with
  | zero =>
    intro n k hn hk hd
    rw [List.drop_of_length_le (by omega)] at hd
    cases hd
  | succ d ih =>
    intro n k hn hk hd
    obtain ⟨k, rfl⟩ : ∃ z, k = z + 1 := ⟨k - 1, by omega⟩
    have h1 : n < back.length := by omega
    rw [List.drop_eq_getElem_cons h1] at hd
    rw [stolonlaw17_SwtchStays.l1, if_pos (by omega), if_pos (by omega), rd_ms back n h1]
    by_cases h4 : back[n].f0 = 4
    · have e : doneB (back[n] :: back.drop (n + 1)) = back[n].f1 :: doneB (back.drop (n + 1)) := doneB_pos _ h4
      rw [e] at hd
      obtain ⟨e1, e2⟩ := List.cons.inj hd
      rw [if_pos h4, if_neg (by omega), if_pos (by omega), if_pos (by omega), rd_ms l i hi, if_pos (by rw [e1, hx]), fw64 (by omega), fw64 (by omega)]
      exact ⟨k, n + 1, by omega, by omega, by omega, e2, by rw [Int.natCast_add, Int.natCast_one]⟩
    · have e : doneB (back[n] :: back.drop (n + 1)) = doneB (back.drop (n + 1)) := doneB_neg _ h4
      rw [e] at hd
      obtain ⟨k1, n1, h5, h6, h7, h8, h9⟩ := ih (n + 1) k (by omega) (by omega) hd
      rw [Int.natCast_add, Int.natCast_one] at h9
      rw [if_neg h4, fw64 (by omega)]
      exact ⟨k1, n1, by omega, by omega, h7, h8, h9⟩
set_option maxRecDepth 100000 in
theorem stay0 (hll : l.length ≤ 3000) (hm : ∀ m ∈ l, MOk m) (hlb : back.length ≤ 3000) (fin : ∀ w k, 12000000 ≤ k → (w = true ∨ ∀ m ∈ l, ¬ (rightM m = true ∧ m.f0 = 6)) → stolonlaw17_SwtchStays.l2 k l true w 0 lim r a q = some true) : ∀ (d i n k : Nat) (w : Bool), i + d = l.length → 12000000 + 4 * d + (back.length - n) + 5 ≤ k → n ≤ back.length → doneB (back.drop n) = doneL (l.drop i) → (w = true ∨ ∀ m ∈ l.take i, ¬ (rightM m = true ∧ m.f0 = 6)) →
    stolonlaw17_SwtchStays.l0 k l true back (n : Int) w (i : Int) lim r a q = some true := by
  intro d
  induction d with
  | zero =>
    intro i n k w hi hk hn hd hw
    obtain ⟨k, rfl⟩ : ∃ z, k = z + 1 := ⟨k - 1, by omega⟩
    rw [stolonlaw17_SwtchStays.l0, if_neg (by omega)]
    rw [List.take_of_length_le (by omega)] at hw
    exact fin w k (by omega) hw
  | succ d ih =>
    intro i n k w hi hk hn hd hw
    obtain ⟨k, rfl⟩ : ∃ z, k = z + 1 + 1 + 1 := ⟨k - 3, by omega⟩
    have h1 : i < l.length := by omega
    have hm0 := hm _ (List.getElem_mem h1)
    have ho := hm0.outs
    rw [stolonlaw17_SwtchStays.l0, if_pos (by omega), if_pos (by omega), rd_ms l i h1, rright16_ok _ hm0.push (by omega) (k + 1 + 1) (by omega), fbs]
    rw [List.drop_eq_getElem_cons h1] at hd
    have hsplit : doneL (l[i] :: l.drop (i + 1)) = doneL [l[i]] ++ doneL (l.drop (i + 1)) := by
      unfold doneL
      rw [← List.map_append, ← List.filter_append]
      rfl
    have step : ∀ w2 : Bool, (w2 = true ∨ ∀ m ∈ l.take (i + 1), ¬ (rightM m = true ∧ m.f0 = 6)) → stolonlaw17_SwtchStays.j2 (k + 1 + 1) l true back (n : Int) w2 (i : Int) (rightM l[i]) lim r a q = some true := by
      intro w2 hw2
      rw [stolonlaw17_SwtchStays.j2]
      have skip : doneL [l[i]] = [] → stolonlaw17_SwtchStays.j3 (k + 1) l true back (n : Int) w2 (i : Int) true lim r a q = some true := by
        intro he
        rw [stolonlaw17_SwtchStays.j3, if_pos rfl, fw64 (by omega)]
        have := ih (i + 1) n k w2 (by omega) (by omega) hn (by rw [hd, hsplit, he]; rfl) hw2
        rw [Int.natCast_add, Int.natCast_one] at this
        exact this
      cases hr : rightM l[i] with
      | false =>
        rw [if_neg (by simp)]
        exact skip (by simp [doneL, hr])
      | true =>
        rw [if_pos rfl, if_pos (by omega), if_pos (by omega), rd_ms l i h1]
        by_cases h3 : l[i].f0 = 3
        · rw [show (l[i].f0 != 3) = false from by simp [h3], stolonlaw17_SwtchStays.j3, if_neg (by simp)]
          have he : doneL [l[i]] = [l[i].f1] := by simp [doneL, hr, h3]
          rw [hsplit, he] at hd
          obtain ⟨k1, n1, h5, h6, h7, h8, h9⟩ := stay1 l lim r a q back hlb w2 i h1 hll l[i].f1 (doneL (l.drop (i + 1))) rfl (back.length - n) n k (by omega) (by omega) hd
          rw [h9]
          have := ih (i + 1) n1 k1 w2 (by omega) (by omega) h7 h8 hw2
          rw [Int.natCast_add, Int.natCast_one] at this
          exact this
        · rw [show (l[i].f0 != 3) = true from by simp [h3]]
          exact skip (by simp [doneL, h3])
    have hnext : ¬ (rightM l[i] = true ∧ l[i].f0 = 6) → (∀ m ∈ l.take i, ¬ (rightM m = true ∧ m.f0 = 6)) → ∀ m ∈ l.take (i + 1), ¬ (rightM m = true ∧ m.f0 = 6) := by
      intro hn hall m hx
      rw [List.take_succ_eq_append_getElem h1] at hx
      rcases List.mem_append.1 hx with hx | hx
      · exact hall m hx
      · rw [List.mem_singleton.1 hx]; exact hn
    cases w with
    | true =>
      rw [if_pos rfl]
      exact step true (.inl rfl)
    | false =>
      have hall := hw.resolve_left (by simp)
      rw [if_neg (by simp)]
      cases hr : rightM l[i] with
      | true =>
        rw [if_pos rfl]
        rw [hr] at step
        refine step _ ?_
        by_cases h6 : l[i].f0 = 6
        · exact .inl (by simp [h6])
        · exact .inr (hnext (fun h => h6 h.2) hall)
      | false =>
        rw [if_neg (by simp)]
        rw [hr] at step
        exact step false (.inr (hnext (fun h => by rw [hr] at h; cases h.1) hall))
end
set_option maxRecDepth 100000 in
theorem stays_j {lim : Int} {r : List Ru} {l : List Ms} (h : SwOk lim r) (hl : l.length ≤ 3000) (hm : ∀ m ∈ l, MOk m) : stolonlaw17_SwtchStays.j0 (19999999 + 1) l true false lim r = some true := by
  have ha := (all_ok 19999999 (by omega) l (r, [], []) hm h (by simp only [List.length_nil]; omega) (by simp only [List.length_nil]; omega)).2
  have hlens := all_lens lim l (r, [], [])
  have hdone := all_done lim l (r, [], [])
  have hstay := fun x => all_stay (lim := lim) (x := x) l (r, [], []) h hm
  rw [stolonlaw17_SwtchStays.j0, if_neg (by simp), swtch_ok hm h (by omega) 19999999 (by omega), fbs]
  generalize swAll lim l (r, [], []) = q at ha hlens hdone hstay ⊢
  obtain ⟨q1, q2, q3⟩ := q
  simp only [List.length_nil, Nat.zero_add] at ha hlens hdone hstay ⊢
  have hlq := ha.len
  have hlr := h.len
  have hlim := h.lim
  obtain ⟨b, h1, h2⟩ := sw_right lim q1 (by omega) ha.small 19999999 (by omega)
  rw [h1, fbs, if_pos (h2.2 ha)]
  have := stay0 l lim r lim q1 q2 hl hm (by omega) (fun w k hk hw => by
    refine stay2 l lim r lim q1 hl (by omega) ha.small (by omega) w (fun hwf x hx => ?_) r.length 0 k (by omega) (by omega)
    by_cases ht : toldB x l = true
    · exact .inl ht
    · refine .inr (hstay x hx (fun m hmx => ⟨fun e => ht ?_, ?_⟩))
      · exact List.any_eq_true.2 ⟨m, hmx, decide_eq_true e⟩
      · rcases hw with hw | hw
        · rw [hwf] at hw; cases hw
        · exact hw m hmx) l.length 0 0 19999999 false (by omega) (by omega) (by omega) (by rw [List.drop_zero, List.drop_zero, hdone]; rfl) (.inr (fun m hx => by rw [List.take_zero] at hx; cases hx))
  exact this
theorem SwtchStays : stolonlaw17_SwtchStays.Pure := by
  intro x l hx hl
  refine ⟨19999999 + 1, ?_⟩
  unfold stolonlaw17_SwtchStays.f
  obtain ⟨b, h1, h2⟩ := start_ok hx.2 (19999999 + 1) (by omega)
  rw [shown17_ok _ (by omega), fbs, h1, fbs]
  cases b with
  | false => rw [if_neg (by simp), stolonlaw17_SwtchStays.j0]; rfl
  | true =>
    obtain ⟨h3, h4, -⟩ := h2 rfl
    obtain ⟨c, h5, h6⟩ := sw_right x.f0 x.f1 h3 h4 (19999999 + 1) (by omega)
    rw [if_pos rfl, h5, fbs]
    cases c with
    | false => rw [if_neg (by simp), stolonlaw17_SwtchStays.j0]; rfl
    | true =>
      have hs := h6.1 rfl
      obtain ⟨d, h7, h8⟩ := few17_ok l hl.1 hl.2.2 (19999999 + 1) (by omega)
      rw [if_pos rfl, h7, fbs]
      cases d with
      | false => rw [stolonlaw17_SwtchStays.j0]; rfl
      | true => exact stays_j hs (h8 rfl).1 (h8 rfl).2
end Go.Proofs.Ytfomnmdjbdohgaa.Pure
