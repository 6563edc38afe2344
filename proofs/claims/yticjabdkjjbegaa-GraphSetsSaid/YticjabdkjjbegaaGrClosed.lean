/- The document's way to what can be reached: as many rounds over all links as there are switches; it comes to the same. Plain lemmas on lists. -/
import Derived.Test.YticjabdkjjbegaaPx3
import Derived.Test.YticjabdkjjbegaaPx4
import Derived.Test.YticjabdkjjbegaaPx0
import Derived.Test.YticjabdkjjbegaaGrCon
namespace Go.Proofs.Yticjabdkjjbegaa.P
set_option linter.unusedVariables false
set_option linter.unusedSimpArgs false
open Go.RowKit Go.Proofs.YticjabdkjjbegaaW.PrintWords Go.Proofs.YticjabdkjjbegaaW.PrintLast Go.Proofs.YticjabdkjjbegaaW.PrintMore
/-- One link of a round. -/
def clStep (may : Nat → Bool) (ls : List Lk) (m : List Bool) (i : Nat) : List Bool := if may i = true ∧ (m.getD (lk ls i).f0.toNat false = true ∨ m.getD (lk ls i).f1.toNat false = true) then (m.set (lk ls i).f0.toNat true).set (lk ls i).f1.toNat true else m
def clTo (may : Nat → Bool) (ls : List Lk) (m : List Bool) : Nat → List Bool
  | 0 => m
  | i + 1 => clStep may ls (clTo may ls m i) i
def clN (may : Nat → Bool) (ls : List Lk) (m : List Bool) : Nat → List Bool
  | 0 => m
  | k + 1 => clTo may ls (clN may ls m k) ls.length
def initM (n : Int) (a : Int) : List Bool := (List.range n.toNat).map (fun (i : Nat) => (i : Int) == a)
def closedL (n : Int) (ls : List Lk) (may : Nat → Bool) (a : Int) : List Int := markedTo (clN may ls (initM n a) n.toNat) n.toNat
section
variable {may : Nat → Bool} {ls : List Lk} {m : List Bool}
theorem clStep_len (i : Nat) : (clStep may ls m i).length = m.length := by unfold clStep; split <;> simp
theorem clTo_len (i : Nat) : (clTo may ls m i).length = m.length := by
  induction i with
  | zero => rfl
  | succ i ih => exact (clStep_len i).trans ih
theorem clN_len (k : Nat) : (clN may ls m k).length = m.length := by
  induction k with
  | zero => rfl
  | succ k ih => exact (clTo_len _).trans ih
theorem clStep_mono (i : Nat) {v : Nat} (h : m.getD v false = true) : (clStep may ls m i).getD v false = true := by
  unfold clStep
  split
  · exact mk_mono _ _ _ (mk_mono _ _ _ h)
  · exact h
theorem clTo_mono {i j : Nat} (hij : i ≤ j) {v : Nat} (h : (clTo may ls m i).getD v false = true) : (clTo may ls m j).getD v false = true := by
  obtain ⟨d, rfl⟩ := Nat.exists_eq_add_of_le hij
  clear hij
  induction d with
  | zero => exact h
  | succ d ih => exact clStep_mono (i + d) ih
theorem clTo_sound {P : Int → Prop} (hstep : ∀ i, i < ls.length → may i = true → (P (lk ls i).f0 ↔ P (lk ls i).f1)) (h0 : ∀ l, l ∈ ls → 0 ≤ l.f0 ∧ 0 ≤ l.f1) (hm : ∀ v : Nat, m.getD v false = true → P (v : Int)) : ∀ i, i ≤ ls.length → ∀ v : Nat, (clTo may ls m i).getD v false = true → P (v : Int) := by
  intro i
  induction i with
  | zero => exact fun _ => hm
  | succ i ih =>
    intro hi v hv
    have ih := ih (by omega)
    show P (v : Int)
    have hv' : (clStep may ls (clTo may ls m i) i).getD v false = true := hv
    unfold clStep at hv'
    split at hv'
    · rename_i hc
      have hl := h0 _ (lk_mem ls i (by omega))
      have hb : P (lk ls i).f0 ∧ P (lk ls i).f1 := by
        rcases hc.2 with h | h
        · have := ih _ h
          rw [show (((lk ls i).f0.toNat : Nat) : Int) = (lk ls i).f0 by omega] at this
          exact ⟨this, (hstep i (by omega) hc.1).1 this⟩
        · have := ih _ h
          rw [show (((lk ls i).f1.toNat : Nat) : Int) = (lk ls i).f1 by omega] at this
          exact ⟨(hstep i (by omega) hc.1).2 this, this⟩
      have hlt := mk_lt _ _ hv'
      rw [List.length_set, List.length_set] at hlt
      by_cases e1 : (lk ls i).f1.toNat = v
      · rw [← e1, show (((lk ls i).f1.toNat : Nat) : Int) = (lk ls i).f1 by omega]; exact hb.2
      · rw [mk_set_ne _ _ _ e1] at hv'
        by_cases e0 : (lk ls i).f0.toNat = v
        · rw [← e0, show (((lk ls i).f0.toNat : Nat) : Int) = (lk ls i).f0 by omega]; exact hb.1
        · rw [mk_set_ne _ _ _ e0] at hv'
          exact ih v hv'
    · exact ih v hv'
theorem clN_sound {P : Int → Prop} (hstep : ∀ i, i < ls.length → may i = true → (P (lk ls i).f0 ↔ P (lk ls i).f1)) (h0 : ∀ l, l ∈ ls → 0 ≤ l.f0 ∧ 0 ≤ l.f1) (hm : ∀ v : Nat, m.getD v false = true → P (v : Int)) (k : Nat) : ∀ v : Nat, (clN may ls m k).getD v false = true → P (v : Int) := by
  induction k with
  | zero => exact hm
  | succ k ih => exact clTo_sound hstep h0 ih ls.length (Nat.le_refl _)
theorem clN_mono (k : Nat) {v : Nat} (h : m.getD v false = true) : (clN may ls m k).getD v false = true := by
  induction k with
  | zero => exact h
  | succ k ih => exact clTo_mono (i := 0) (Nat.zero_le _) ih
end
theorem marks_le : ∀ (m m' : List Bool), m.length = m'.length → (∀ v : Nat, m.getD v false = true → m'.getD v false = true) → m.count true ≤ m'.count true ∧ (m.count true = m'.count true → m = m')
  | [], [], _, _ => ⟨Nat.le_refl _, fun _ => rfl⟩
  | b :: m, b' :: m', hl, h => by
    have ih := marks_le m m' (by simpa using hl) (fun v hv => h (v + 1) hv)
    have h0 := h 0
    simp only [List.getD_cons_zero] at h0
    rw [List.count_cons, List.count_cons]
    cases b with
    | true => rw [h0 rfl]; exact ⟨by simp; exact ih.1, fun e => by rw [ih.2 (by simpa using e)]⟩
    | false =>
      cases b' with
      | true => exact ⟨by simp; omega, fun e => by simp at e; omega⟩
      | false => exact ⟨by simpa using ih.1, fun e => by rw [ih.2 (by simpa using e)]⟩
theorem clN_stable (may : Nat → Bool) (ls : List Lk) (m : List Bool) : ∀ k, clTo may ls (clN may ls m k) ls.length = clN may ls m k ∨ m.count true + k ≤ (clN may ls m k).count true := by
  intro k
  induction k with
  | zero => exact .inr (Nat.le_refl _)
  | succ k ih =>
    rcases ih with h | h
    · left
      show clTo may ls (clTo may ls (clN may ls m k) ls.length) ls.length = clTo may ls (clN may ls m k) ls.length
      rw [h, h]
    · have h1 := marks_le (clN may ls m k) (clTo may ls (clN may ls m k) ls.length) (clTo_len _).symm (fun v hv => clTo_mono (i := 0) (Nat.zero_le _) hv)
      by_cases e : (clN may ls m k).count true = (clTo may ls (clN may ls m k) ls.length).count true
      · left
        have := h1.2 e
        show clTo may ls (clTo may ls (clN may ls m k) ls.length) ls.length = clTo may ls (clN may ls m k) ls.length
        rw [← this, ← this]
      · right
        show m.count true + (k + 1) ≤ (clTo may ls (clN may ls m k) ls.length).count true
        omega
theorem stable_closed {may : Nat → Bool} {ls : List Lk} {m : List Bool} (h : clTo may ls m ls.length = m) {n : Int} (he : Ends n ls) (hlen : (m.length : Int) = n) (i : Nat) (hi : i < ls.length) (hp : may i = true) : m.getD (lk ls i).f0.toNat false = true ↔ m.getD (lk ls i).f1.toNat false = true := by
  have hl := he _ (lk_mem ls i hi)
  have key : (m.getD (lk ls i).f0.toNat false = true ∨ m.getD (lk ls i).f1.toNat false = true) → m.getD (lk ls i).f0.toNat false = true ∧ m.getD (lk ls i).f1.toNat false = true := by
    intro hm
    have h1 : (clTo may ls m i).getD (lk ls i).f0.toNat false = true ∨ (clTo may ls m i).getD (lk ls i).f1.toNat false = true := hm.imp (fun h => clTo_mono (i := 0) (Nat.zero_le _) h) (fun h => clTo_mono (i := 0) (Nat.zero_le _) h)
    have h2 : clTo may ls m (i + 1) = ((clTo may ls m i).set (lk ls i).f0.toNat true).set (lk ls i).f1.toNat true := if_pos ⟨hp, h1⟩
    have hb1 : (clTo may ls m (i + 1)).getD (lk ls i).f1.toNat false = true := by rw [h2, mk_set _ _ _ (by rw [List.length_set, clTo_len]; omega), if_pos rfl]
    have hb0 : (clTo may ls m (i + 1)).getD (lk ls i).f0.toNat false = true := by
      rw [h2]
      refine mk_mono _ _ _ ?_
      rw [mk_set _ _ _ (by rw [clTo_len]; omega), if_pos rfl]
    have h3 := clTo_mono (j := ls.length) (by omega) hb0
    have h4 := clTo_mono (j := ls.length) (by omega) hb1
    rw [h] at h3 h4
    exact ⟨h3, h4⟩
  exact ⟨fun h => (key (.inl h)).2, fun h => (key (.inr h)).1⟩
theorem initM_at (n a : Int) (v : Nat) : (initM n a).getD v false = true ↔ ((v : Int) < n ∧ (v : Int) = a) := by
  unfold initM
  rw [List.getD_eq_getElem?_getD, List.getElem?_map]
  by_cases h : v < n.toNat
  · rw [List.getElem?_range h]
    simp only [Option.map_some, Option.getD_some, beq_iff_eq]
    exact ⟨fun e => ⟨by omega, e⟩, fun e => e.2⟩
  · rw [List.getElem?_eq_none (by rw [List.length_range]; omega)]
    exact ⟨fun e => (by cases e), fun e => (by omega)⟩
theorem initM_len (n a : Int) : (initM n a).length = n.toNat := by simp [initM]
theorem closed_iff {may : Nat → Bool} {n : Int} {ls : List Lk} {a : Int} (he : Ends n ls) (h0 : 0 ≤ n) (v : Nat) : (clN may ls (initM n a) n.toNat).getD v false = true ↔ (0 ≤ a ∧ a < n) ∧ Con may ls a (v : Int) := by
  have hov : ∀ i, i < ls.length → overTo (lk ls i) (lk ls i).f0 = some (lk ls i).f1 ∧ overTo (lk ls i) (lk ls i).f1 = some (lk ls i).f0 := fun i hi => by
    have := he _ (lk_mem ls i hi)
    unfold overTo
    exact ⟨if_pos rfl, by rw [if_neg (by omega), if_pos rfl]⟩
  constructor
  · intro h
    refine clN_sound (P := fun x => (0 ≤ a ∧ a < n) ∧ Con may ls a x) (fun i hi hp => ?_) (fun l hl => by have := he l hl; omega) (fun v hv => ?_) n.toNat v h
    · exact ⟨fun h => ⟨h.1, .step i h.2 hi hp (hov i hi).1⟩, fun h => ⟨h.1, .step i h.2 hi hp (hov i hi).2⟩⟩
    · obtain ⟨h1, h2⟩ := (initM_at n a v).1 hv
      exact ⟨⟨by omega, by omega⟩, by rw [h2]; exact .refl⟩
  · rintro ⟨ha, hc⟩
    have hst : clTo may ls (clN may ls (initM n a) n.toNat) ls.length = clN may ls (initM n a) n.toNat := by
      rcases clN_stable may ls (initM n a) n.toNat with h | h
      · exact h
      · have h1 := List.count_le_length (a := true) (l := clN may ls (initM n a) n.toNat)
        rw [clN_len, initM_len] at h1
        have h2 : 0 < (initM n a).count true := List.count_pos_iff.2 (by
          have := (initM_at n a a.toNat).2 ⟨by omega, by omega⟩
          have hlt := mk_lt _ _ this
          rw [List.getD_eq_getElem?_getD, List.getElem?_eq_getElem hlt, Option.getD_some] at this
          rw [← this]
          exact List.getElem_mem _)
        omega
    have key : ∀ y, Con may ls a y → 0 ≤ y ∧ (clN may ls (initM n a) n.toNat).getD y.toNat false = true := by
      intro y hy
      induction hy with
      | refl => exact ⟨ha.1, clN_mono _ ((initM_at n a a.toNat).2 ⟨by omega, by omega⟩)⟩
      | step i _ hi hp ho ih =>
        have hb := over_ends he hi ho
        refine ⟨hb.1, ?_⟩
        have hs := stable_closed hst he (by rw [clN_len, initM_len]; omega) i hi hp
        unfold overTo at ho
        split at ho
        · rename_i e; obtain rfl := Option.some.inj ho; rw [e] at ih; exact hs.1 ih.2
        · split at ho
          · rename_i e; obtain rfl := Option.some.inj ho; rw [e] at ih; exact hs.2 ih.2
          · cases ho
    have := (key _ hc).2
    rwa [Int.toNat_natCast] at this
/-- The document's row is the program's. -/
theorem closed_eq {may : Nat → Bool} {n : Int} {ls : List Lk} {a : Int} (he : Ends n ls) (h0 : 0 ≤ n) (hn : n ≤ 32) : closedL n ls may a = reachL n ls may a := by
  refine rising_eq (markedTo_sorted _ _) (markedTo_sorted _ _) (fun x => ?_)
  have h1 := mem_reachL (p := may) (a := a) he hn x
  rw [h1]
  unfold closedL
  rw [mem_markedTo]
  constructor
  · rintro ⟨h2, h3, h4⟩
    have := (closed_iff he h0 x.toNat).1 h4
    rwa [show ((x.toNat : Nat) : Int) = x by omega] at this
  · rintro ⟨h2, h3⟩
    have h4 := h3.inside he h2
    refine ⟨h4.1, by omega, (closed_iff he h0 x.toNat).2 ⟨h2, ?_⟩⟩
    rwa [show ((x.toNat : Nat) : Int) = x by omega]
end Go.Proofs.Yticjabdkjjbegaa.P
