/- What can be reached in a graph over links that may be used: by definition, breadth first, and by rounds; how many links it takes. Plain lemmas on lists. -/
import Derived.Test.YticjabdkjjbegaaPx3
import Derived.Test.YticjabdkjjbegaaPx4
import Derived.Test.YticjabdkjjbegaaPx0
namespace Go.Proofs.Yticjabdkjjbegaa.P
set_option linter.unusedVariables false
set_option linter.unusedSimpArgs false
open Go.RowKit Go.Proofs.YticjabdkjjbegaaW.PrintWords Go.Proofs.YticjabdkjjbegaaW.PrintLast Go.Proofs.YticjabdkjjbegaaW.PrintMore
abbrev Lk := S41
def lk (ls : List Lk) (i : Nat) : Lk := rd_T41 ls (i : Int)
theorem lk_at (ls : List Lk) (i : Nat) (h : i < ls.length) : lk ls i = ls[i] := rd_link ls i h
theorem lk_mem (ls : List Lk) (i : Nat) (h : i < ls.length) : lk ls i ∈ ls := by rw [lk_at ls i h]; exact List.getElem_mem _
/-- Each link joins two switches that there are, the lesser first. -/
def Ends (n : Int) (ls : List Lk) : Prop := ∀ l, l ∈ ls → 0 ≤ l.f0 ∧ l.f0 < l.f1 ∧ l.f1 < n
theorem Ends.ok {n : Int} {ls : List Lk} (h : Ends n ls) (hn : n ≤ 32) : OkL ls := fun l hl => by have := h l hl; exact ⟨⟨by omega, by omega⟩, ⟨by omega, by omega⟩⟩
/-- What can be reached from a switch. -/
inductive Con (p : Nat → Bool) (ls : List Lk) (a : Int) : Int → Prop
  | refl : Con p ls a a
  | step {x y : Int} (i : Nat) : Con p ls a x → i < ls.length → p i = true → overTo (lk ls i) x = some y → Con p ls a y
theorem over_back {l : Lk} {x y : Int} (h : overTo l x = some y) (hne : l.f0 ≠ l.f1) : overTo l y = some x := by
  unfold overTo at *
  split at h
  · obtain rfl := Option.some.inj h
    rw [if_neg (fun e => hne e.symm), if_pos rfl]
    simp_all
  · split at h
    · obtain rfl := Option.some.inj h
      rw [if_pos rfl]
      simp_all
    · cases h
theorem over_ends {n : Int} {ls : List Lk} (h : Ends n ls) {i : Nat} (hi : i < ls.length) {x y : Int} (ho : overTo (lk ls i) x = some y) : 0 ≤ y ∧ y < n := by
  have := h _ (lk_mem ls i hi)
  unfold overTo at ho
  split at ho
  · obtain rfl := Option.some.inj ho; omega
  · split at ho
    · obtain rfl := Option.some.inj ho; omega
    · cases ho
theorem Con.trans {p : Nat → Bool} {ls : List Lk} {a b c : Int} (h1 : Con p ls a b) (h2 : Con p ls b c) : Con p ls a c := by
  induction h2 with
  | refl => exact h1
  | step i _ hi hp ho ih => exact .step i ih hi hp ho
theorem Con.symm {p : Nat → Bool} {n : Int} {ls : List Lk} {a b : Int} (he : Ends n ls) (h : Con p ls a b) : Con p ls b a := by
  induction h with
  | refl => exact .refl
  | step i _ hi hp ho ih =>
    have := he _ (lk_mem ls i hi)
    exact (Con.step i .refl hi hp (over_back ho (by omega))).trans ih
theorem Con.mono {p p' : Nat → Bool} {ls : List Lk} {a b : Int} (hp : ∀ i, i < ls.length → p i = true → p' i = true) (h : Con p ls a b) : Con p' ls a b := by
  induction h with
  | refl => exact .refl
  | step i _ hi hp' ho ih => exact .step i ih hi (hp i hi hp') ho
theorem Con.inside {p : Nat → Bool} {n : Int} {ls : List Lk} {a b : Int} (he : Ends n ls) (ha : 0 ≤ a ∧ a < n) (h : Con p ls a b) : 0 ≤ b ∧ b < n := by
  cases h with
  | refl => exact ha
  | step i _ hi _ ho => exact over_ends he hi ho
/-! ### marks -/
theorem mk_set (m : List Bool) (b y : Nat) (hb : b < m.length) : (m.set b true).getD y false = if b = y then true else m.getD y false := by
  rw [List.getD_eq_getElem?_getD, List.getElem?_set]
  by_cases e : b = y
  · simp [e, show y < m.length from e ▸ hb]
  · simp [e, List.getD_eq_getElem?_getD]
theorem mk_set_ne (m : List Bool) (b y : Nat) (h : b ≠ y) : (m.set b true).getD y false = m.getD y false := by
  rw [List.getD_eq_getElem?_getD, List.getElem?_set_ne h, List.getD_eq_getElem?_getD]
theorem mk_mono (m : List Bool) (b y : Nat) (h : m.getD y false = true) : (m.set b true).getD y false = true := by
  by_cases hb : b < m.length
  · rw [mk_set m b y hb]; split <;> first | rfl | exact h
  · rw [List.set_eq_of_length_le (by omega)]; exact h
theorem mk_lt (m : List Bool) (y : Nat) (h : m.getD y false = true) : y < m.length := by
  apply Decidable.byContradiction
  intro hc
  rw [List.getD_eq_getElem?_getD, List.getElem?_eq_none (by omega)] at h
  cases h
/-- How many of the links that may be used have both ends marked. -/
def usedN (p : Nat → Bool) (ls : List Lk) (m : List Bool) : Nat := (List.range ls.length).countP (fun i => p i && (m.getD (lk ls i).f0.toNat false && m.getD (lk ls i).f1.toNat false))
theorem countP_mono_le {α : Type} (l : List α) (f g : α → Bool) (h : ∀ x, x ∈ l → f x = true → g x = true) : l.countP f ≤ l.countP g := by
  induction l with
  | nil => exact Nat.le_refl _
  | cons x l ih =>
    have ih := ih (fun y hy => h y (List.mem_cons_of_mem _ hy))
    rw [List.countP_cons, List.countP_cons]
    have hx := h x (List.mem_cons_self ..)
    by_cases hf : f x = true
    · rw [if_pos hf, if_pos (hx hf)]; omega
    · rw [if_neg hf]; omega
theorem countP_strict {α : Type} (l : List α) (f g : α → Bool) (h : ∀ x, x ∈ l → f x = true → g x = true) (z : α) (hz : z ∈ l) (h0 : f z = false) (h1 : g z = true) : l.countP f + 1 ≤ l.countP g := by
  induction l with
  | nil => cases hz
  | cons x l ih =>
    rw [List.countP_cons, List.countP_cons]
    rcases List.mem_cons.1 hz with rfl | hz
    · have := countP_mono_le l f g (fun y hy => h y (List.mem_cons_of_mem _ hy))
      rw [if_neg (by simp [h0]), if_pos h1]; omega
    · have := ih (fun y hy => h y (List.mem_cons_of_mem _ hy)) hz
      have hx := h x (List.mem_cons_self ..)
      by_cases hf : f x = true
      · rw [if_pos hf, if_pos (hx hf)]; omega
      · rw [if_neg hf]; omega
/-- What holds while all that is beside x is marked: its first i links are done. -/
structure Inv (p : Nat → Bool) (ls : List Lk) (a : Int) (x : Int) (i : Nat) (s : List Bool × List Int) : Prop where
  good : Good s
  sound : ∀ v : Nat, s.1.getD v false = true → Con p ls a (v : Int)
  start : s.1.getD a.toNat false = true
  queue : ∀ y, y ∈ s.2 → s.1.getD y.toNat false = true
  here : s.1.getD x.toNat false = true
  done : ∀ v : Nat, s.1.getD v false = true → (v : Int) ∉ s.2 → ∀ j, j < ls.length → ((v : Int) ≠ x ∨ j < i) → p j = true → ∀ y, overTo (lk ls j) (v : Int) = some y → s.1.getD y.toNat false = true
  count : s.1.count true ≤ 1 + usedN p ls s.1
theorem Inv.visit {p : Nat → Bool} {ls : List Lk} {a x : Int} {i : Nat} {s : List Bool × List Int} (hok : OkL ls) (hx : 0 ≤ x) (h : Inv p ls a x i s) (hi : i < ls.length) : Inv p ls a x (i + 1) (visit p x i (lk ls i) s) := by
  have hl := hok _ (lk_mem ls i hi)
  have hgood := (visit_good (p := p) (a := x) (i := i) hl h.good).1
  have stay : ∀ (hy : p i = true → ∀ y, overTo (lk ls i) x = some y → s.1.getD y.toNat false = true), Inv p ls a x (i + 1) s := fun hy =>
    ⟨h.good, h.sound, h.start, h.queue, h.here, fun v hv hq j hj hji hp y ho => by
      by_cases e : (v : Int) = x ∧ j = i
      · obtain ⟨e1, rfl⟩ := e
        rw [e1] at ho
        exact hy hp y ho
      · exact h.done v hv hq j hj (by rcases hji with h1 | h1; exact .inl h1; by_cases e2 : (v : Int) = x; exact .inr (by have : j ≠ i := fun e3 => e ⟨e2, e3⟩; omega); exact .inl e2) hp y ho, h.count⟩
  unfold P.visit at hgood ⊢
  cases ho : overTo (lk ls i) x with
  | none =>
    simp only
    exact stay (fun _ y hy => by rw [ho] at hy; cases hy)
  | some b =>
    rw [ho] at hgood
    simp only at hgood ⊢
    have hb := over_range hl ho
    have hlen := h.good.1
    by_cases hc : p i = true ∧ s.1.getD b.toNat false = false
    · rw [if_pos hc] at hgood ⊢
      have hbl : b.toNat < s.1.length := by omega
      refine ⟨hgood, fun v hv => ?_, mk_mono _ _ _ h.start, fun y hy => ?_, mk_mono _ _ _ h.here, fun v hv hq j hj hji hp y hy => ?_, ?_⟩
      · simp only at hv
        rw [mk_set _ _ _ hbl] at hv
        by_cases e : b.toNat = v
        · have hcx := h.sound x.toNat h.here
          rw [show ((x.toNat : Nat) : Int) = x by omega] at hcx
          rw [← e, show ((b.toNat : Nat) : Int) = b by omega]
          exact .step i hcx hi hc.1 ho
        · rw [if_neg e] at hv
          exact h.sound v hv
      · simp only at hy ⊢
        rcases List.mem_append.1 hy with hy | hy
        · exact mk_mono _ _ _ (h.queue y hy)
        · obtain rfl := List.mem_singleton.1 hy
          rw [mk_set _ _ _ hbl, if_pos rfl]
      · simp only at hv hq ⊢
        rw [mk_set _ _ _ hbl] at hv
        by_cases e : b.toNat = v
        · exact absurd (List.mem_append_right _ (by rw [List.mem_singleton]; omega)) hq
        · rw [if_neg e] at hv
          have hq' : (v : Int) ∉ s.2 := fun hm => hq (List.mem_append_left _ hm)
          by_cases e2 : (v : Int) = x ∧ j = i
          · obtain ⟨e1, rfl⟩ := e2
            rw [e1, ho] at hy
            obtain rfl := Option.some.inj hy
            rw [mk_set _ _ _ hbl, if_pos rfl]
          · exact mk_mono _ _ _ (h.done v hv hq' j hj (by rcases hji with h1 | h1; exact .inl h1; by_cases e3 : (v : Int) = x; exact .inr (by have : j ≠ i := fun e4 => e2 ⟨e3, e4⟩; omega); exact .inl e3) hp y hy)
      · simp only
        rw [count_mark _ _ hbl hc.2]
        have hs := countP_strict (List.range ls.length) (fun j => p j && (s.1.getD (lk ls j).f0.toNat false && s.1.getD (lk ls j).f1.toNat false)) (fun j => p j && ((s.1.set b.toNat true).getD (lk ls j).f0.toNat false && (s.1.set b.toNat true).getD (lk ls j).f1.toNat false)) (fun j _ hj => by
          simp only [Bool.and_eq_true] at hj ⊢
          exact ⟨hj.1, mk_mono _ _ _ hj.2.1, mk_mono _ _ _ hj.2.2⟩) i (List.mem_range.2 hi) (by
            simp only [Bool.and_eq_false_iff]
            right
            unfold overTo at ho
            split at ho
            · obtain rfl := Option.some.inj ho; exact .inr hc.2
            · split at ho
              · obtain rfl := Option.some.inj ho; exact .inl hc.2
              · cases ho) (by
            simp only [Bool.and_eq_true]
            have hm := mk_mono _ b.toNat _ h.here
            have hbm : (s.1.set b.toNat true).getD b.toNat false = true := by rw [mk_set _ _ _ hbl, if_pos rfl]
            refine ⟨hc.1, ?_⟩
            unfold overTo at ho
            split at ho
            · rename_i e; obtain rfl := Option.some.inj ho; rw [← e]; exact ⟨hm, hbm⟩
            · split at ho
              · rename_i e; obtain rfl := Option.some.inj ho; rw [← e]; exact ⟨hbm, hm⟩
              · cases ho)
        have := h.count
        unfold usedN at this ⊢
        omega
    · rw [if_neg hc]
      refine stay (fun hp y hy => ?_)
      rw [ho] at hy
      obtain rfl := Option.some.inj hy
      cases hm : s.1.getD b.toNat false with
      | true => rfl
      | false => exact absurd ⟨hp, hm⟩ hc
theorem Inv.visitTo {p : Nat → Bool} {ls : List Lk} {a x : Int} {s : List Bool × List Int} (hok : OkL ls) (hx : 0 ≤ x) (h : Inv p ls a x 0 s) : ∀ i, i ≤ ls.length → Inv p ls a x i (visitTo p x ls s i) := by
  intro i
  induction i with
  | zero => exact fun _ => h
  | succ i ih => exact fun hi => (ih (by omega)).visit hok hx (by omega)
/-- What the search ends with. -/
structure Found (p : Nat → Bool) (ls : List Lk) (a : Int) (m : List Bool) : Prop where
  len : m.length = 32
  sound : ∀ v : Nat, m.getD v false = true → Con p ls a (v : Int)
  start : m.getD a.toNat false = true
  closed : ∀ v : Nat, m.getD v false = true → ∀ j, j < ls.length → p j = true → ∀ y, overTo (lk ls j) (v : Int) = some y → m.getD y.toNat false = true
  count : m.count true ≤ 1 + usedN p ls m
theorem bfs_found {p : Nat → Bool} {ls : List Lk} {a : Int} (hok : OkL ls) : ∀ (k : Nat) (s : List Bool × List Int), (∀ x, Inv p ls a x ls.length s ∨ x ∉ s.2) → Good s → (∀ y, y ∈ s.2 → s.1.getD y.toNat false = true) → (∀ v : Nat, s.1.getD v false = true → Con p ls a (v : Int)) → s.1.getD a.toNat false = true → s.1.count true ≤ 1 + usedN p ls s.1 →
    (∀ v : Nat, s.1.getD v false = true → (v : Int) ∉ s.2 → ∀ j, j < ls.length → p j = true → ∀ y, overTo (lk ls j) (v : Int) = some y → s.1.getD y.toNat false = true) → s.2.length + 32 ≤ k + s.1.count true → Found p ls a (bfs p ls k s) := by
  intro k
  induction k with
  | zero =>
    intro s _ hg _ hs hst hcn hd hk
    have hle := List.count_le_length (a := true) (l := s.1)
    have h32 := hg.1
    have hq : s.2 = [] := List.eq_nil_of_length_eq_zero (by omega)
    exact ⟨hg.1, hs, hst, fun v hv => hd v hv (by rw [hq]; simp), hcn⟩
  | succ k ih =>
    rintro ⟨m, q⟩ _ hg hqm hs hst hcn hd hk
    cases q with
    | nil => exact ⟨hg.1, hs, hst, fun v hv => hd v hv (by simp), hcn⟩
    | cons x q =>
      have hx := hg.2 x (List.mem_cons_self ..)
      have h0 : Inv p ls a x 0 (m, q) := ⟨⟨hg.1, fun y hy => hg.2 y (List.mem_cons_of_mem _ hy)⟩, hs, hst, fun y hy => hqm y (List.mem_cons_of_mem _ hy), hqm x (List.mem_cons_self ..), fun v hv hq j hj hji hp y ho => by
        rcases hji with h1 | h1
        · refine hd v hv (fun hm => ?_) j hj hp y ho
          rcases List.mem_cons.1 hm with h2 | h2
          · exact h1 h2
          · exact hq h2
        · omega, hcn⟩
      have h1 := Inv.visitTo hok hx.1 h0 ls.length (Nat.le_refl _)
      have h2 := (visitTo_good (p := p) (a := x) hok h0.good ls.length (Nat.le_refl _)).2
      show Found p ls a (bfs p ls k (P.visitTo p x ls (m, q) ls.length))
      generalize P.visitTo p x ls (m, q) ls.length = s2 at h1 h2 ⊢
      refine ih s2 (fun y => ?_) h1.good h1.queue h1.sound h1.start h1.count (fun v hv hq j hj hp y ho => h1.done v hv hq j hj (by omega) hp y ho) ?_
      · by_cases hy : y ∈ s2.2
        · left
          exact ⟨h1.good, h1.sound, h1.start, h1.queue, h1.queue y hy, fun v hv hq j hj hji hp z ho => h1.done v hv hq j hj (.inr hj) hp z ho, h1.count⟩
        · exact .inr hy
      · simp only [List.length_cons] at hk
        simp only at h2
        omega
theorem spread_found {p : Nat → Bool} {n : Int} {ls : List Lk} {a : Int} (hok : OkL ls) (hn : n ≤ 32) (h0 : 0 ≤ a) (h1 : a < n) : Found p ls a (spreadF n ls p a) := by
  have hal : a.toNat < noMarks.length := by simp [noMarks]; omega
  have hm : ∀ v, (noMarks.set a.toNat true).getD v false = true → v = a.toNat := fun v hv => by
    rw [mk_set _ _ _ hal] at hv
    by_cases e : a.toNat = v
    · exact e.symm
    · rw [if_neg e, noMarks_at] at hv; cases hv
  have hst : (noMarks.set a.toNat true).getD a.toNat false = true := by rw [mk_set _ _ _ hal, if_pos rfl]
  have hcount : (noMarks.set a.toNat true).count true = 1 := by
    rw [count_mark noMarks a.toNat hal (noMarks_at _)]
    simp [noMarks, List.count_replicate]
  rw [spreadF, if_neg (by omega)]
  refine bfs_found hok 33 _ (fun x => ?_) ⟨by simp [noMarks], fun x hx => by obtain rfl := List.mem_singleton.1 hx; omega⟩ (fun y hy => by obtain rfl := List.mem_singleton.1 hy; exact hst) (fun v hv => by rw [hm v hv, show ((a.toNat : Nat) : Int) = a by omega]; exact .refl) hst (by simp only; rw [hcount]; omega) (fun v hv hq => absurd (by rw [hm v hv, show ((a.toNat : Nat) : Int) = a by omega]; exact List.mem_singleton.2 rfl) hq) (by simp only; rw [hcount]; simp)
  by_cases e : x = a
  · left
    subst e
    exact ⟨⟨by simp [noMarks], fun y hy => by obtain rfl := List.mem_singleton.1 hy; omega⟩, fun v hv => by rw [hm v hv, show ((x.toNat : Nat) : Int) = x by omega]; exact .refl, hst, fun y hy => by obtain rfl := List.mem_singleton.1 hy; exact hst, hst, fun v hv hq => absurd (by rw [hm v hv, show ((x.toNat : Nat) : Int) = x by omega]; exact List.mem_singleton.2 rfl) hq, by simp only; rw [hcount]; omega⟩
  · exact .inr (by rw [List.mem_singleton]; exact e)
theorem Found.all {p : Nat → Bool} {n : Int} {ls : List Lk} {a : Int} {m : List Bool} (h : Found p ls a m) (he : Ends n ls) (h0 : 0 ≤ a) {y : Int} (hy : Con p ls a y) : 0 ≤ y ∧ m.getD y.toNat false = true := by
  induction hy with
  | refl => exact ⟨h0, h.start⟩
  | step i _ hi hp ho ih =>
    have h1 := (over_ends he hi ho).1
    refine ⟨h1, h.closed _ ih.2 i hi hp _ (by rw [show ∀ z : Int, 0 ≤ z → ((z.toNat : Nat) : Int) = z from fun z hz => by omega]; exact ho; exact ih.1)⟩
/-- What the program marks is what can be reached. -/
theorem spread_iff {p : Nat → Bool} {n : Int} {ls : List Lk} {a : Int} (he : Ends n ls) (hn : n ≤ 32) (v : Nat) : (spreadF n ls p a).getD v false = true ↔ (0 ≤ a ∧ a < n) ∧ Con p ls a (v : Int) := by
  by_cases ha : 0 ≤ a ∧ a < n
  · have hf := spread_found (p := p) (he.ok hn) hn ha.1 ha.2
    refine ⟨fun h => ⟨ha, hf.sound v h⟩, fun h => ?_⟩
    have := (hf.all he ha.1 h.2).2
    rwa [Int.toNat_natCast] at this
  · rw [spreadF, if_pos (by omega), noMarks_at]
    exact ⟨fun h => (by cases h), fun h => absurd h.1 ha⟩
theorem spread_count {p : Nat → Bool} {n : Int} {ls : List Lk} {a : Int} (he : Ends n ls) (hn : n ≤ 32) : (spreadF n ls p a).count true ≤ 1 + usedN p ls (spreadF n ls p a) := by
  by_cases ha : 0 ≤ a ∧ a < n
  · exact (spread_found (p := p) (he.ok hn) hn ha.1 ha.2).count
  · rw [spreadF, if_pos (by omega)]
    simp [noMarks, List.count_replicate]
/-! ### rows of marks -/
theorem markedTo_ext (m m' : List Bool) (k : Nat) (h : ∀ i, i < k → m.getD i false = m'.getD i false) : markedTo m k = markedTo m' k := by
  unfold markedTo
  congr 1
  exact List.filter_congr (fun i hi => h i (List.mem_range.1 hi))
theorem markedTo_more (m : List Bool) (k j : Nat) (h : ∀ i, k ≤ i → i < k + j → m.getD i false = false) : markedTo m (k + j) = markedTo m k := by
  induction j with
  | zero => rfl
  | succ j ih =>
    rw [← Nat.add_assoc, markedTo_succ, if_neg (by rw [h (k + j) (by omega) (by omega)]; simp)]
    exact ih (fun i h1 h2 => h i h1 (by omega))
theorem mem_markedTo (m : List Bool) (k : Nat) (x : Int) : x ∈ markedTo m k ↔ 0 ≤ x ∧ x < k ∧ m.getD x.toNat false = true := by
  unfold markedTo
  rw [List.mem_map]
  constructor
  · rintro ⟨i, hi, rfl⟩
    rw [List.mem_filter, List.mem_range] at hi
    exact ⟨by omega, by omega, by rw [Int.toNat_natCast]; exact hi.2⟩
  · rintro ⟨h0, h1, h2⟩
    exact ⟨x.toNat, List.mem_filter.2 ⟨List.mem_range.2 (by omega), h2⟩, by omega⟩
theorem markedTo_len (m : List Bool) : ∀ k, k ≤ m.length → (markedTo m k).length = (m.take k).count true := by
  intro k
  induction k with
  | zero => intro _; simp [markedTo]
  | succ k ih =>
    intro hk
    rw [markedTo_succ, List.take_succ_eq_append_getElem (by omega), List.count_append, ← ih (by omega)]
    have : m.getD k false = m[k] := by rw [List.getD_eq_getElem?_getD, List.getElem?_eq_getElem (by omega)]; rfl
    rw [this]
    cases m[k] <;> simp
theorem markedTo_sorted (m : List Bool) (k : Nat) : (markedTo m k).Pairwise (· < ·) := by
  induction k with
  | zero => simp [markedTo]
  | succ k ih =>
    rw [markedTo_succ]
    split
    · rw [List.pairwise_append]
      refine ⟨ih, List.pairwise_singleton _ _, fun x hx y hy => ?_⟩
      obtain rfl := List.mem_singleton.1 hy
      exact ((mem_markedTo m k x).1 hx).2.1
    · exact ih
/-- The switches that can be reached. -/
def reachL (n : Int) (ls : List Lk) (p : Nat → Bool) (a : Int) : List Int := markedTo (spreadF n ls p a) 32
theorem mem_reachL {p : Nat → Bool} {n : Int} {ls : List Lk} {a : Int} (he : Ends n ls) (hn : n ≤ 32) (x : Int) : x ∈ reachL n ls p a ↔ (0 ≤ a ∧ a < n) ∧ Con p ls a x := by
  unfold reachL
  rw [mem_markedTo]
  constructor
  · rintro ⟨h0, h1, h2⟩
    have := (spread_iff he hn x.toNat).1 h2
    rwa [show ((x.toNat : Nat) : Int) = x by omega] at this
  · rintro ⟨h1, h2⟩
    have h3 := h2.inside he h1
    refine ⟨h3.1, by omega, (spread_iff he hn x.toNat).2 ⟨h1, ?_⟩⟩
    rwa [show ((x.toNat : Nat) : Int) = x by omega]
theorem reachL_len (n : Int) (ls : List Lk) (p : Nat → Bool) (a : Int) : (reachL n ls p a).length = (spreadF n ls p a).count true := by
  unfold reachL
  rw [markedTo_len _ 32 (by rw [spreadF_len]; exact Nat.le_refl _), List.take_of_length_le (by rw [spreadF_len]; exact Nat.le_refl _)]
/-- Two rows that rise and have the same numbers are one. -/
theorem rising_eq : ∀ {l m : List Int}, l.Pairwise (· < ·) → m.Pairwise (· < ·) → (∀ x, x ∈ l ↔ x ∈ m) → l = m
  | [], [], _, _, _ => rfl
  | [], y :: m, _, _, h => absurd ((h y).2 (List.mem_cons_self ..)) (by simp)
  | x :: l, [], _, _, h => absurd ((h x).1 (List.mem_cons_self ..)) (by simp)
  | x :: l, y :: m, h1, h2, h => by
    have hx : ∀ {z : Int}, z ∈ l → x < z := fun hz => List.rel_of_pairwise_cons h1 hz
    have hy : ∀ {z : Int}, z ∈ m → y < z := fun hz => List.rel_of_pairwise_cons h2 hz
    have e : x = y := by
      rcases List.mem_cons.1 ((h x).1 (List.mem_cons_self ..)) with e | e
      · exact e
      · rcases List.mem_cons.1 ((h y).2 (List.mem_cons_self ..)) with e2 | e2
        · exact e2.symm
        · have := hx e2; have := hy e; omega
    subst e
    rw [rising_eq (List.Pairwise.of_cons h1) (List.Pairwise.of_cons h2) (fun z => ?_)]
    constructor
    · intro hz
      rcases List.mem_cons.1 ((h z).1 (List.mem_cons_of_mem _ hz)) with e | e
      · have := hx hz; omega
      · exact e
    · intro hz
      rcases List.mem_cons.1 ((h z).2 (List.mem_cons_of_mem _ hz)) with e | e
      · have := hy hz; omega
      · exact e
/-- No more distinct links than a row has. -/
theorem nodup_sub_len {α : Type} [DecidableEq α] : ∀ {l m : List α}, l.Nodup → (∀ x, x ∈ l → x ∈ m) → l.length ≤ m.length
  | [], _, _, _ => Nat.zero_le _
  | x :: l, m, h, hs => by
    have hx := hs x (List.mem_cons_self ..)
    rw [List.nodup_cons] at h
    have := nodup_sub_len (m := m.erase x) h.2 (fun y hy => by
      have hne : y ≠ x := fun e => h.1 (e ▸ hy)
      exact (List.mem_erase_of_ne hne).2 (hs y (List.mem_cons_of_mem _ hy)))
    rw [List.length_erase_of_mem hx] at this
    have := List.length_pos_of_mem hx
    simp only [List.length_cons]
    omega
/-- Is a link in a row? -/
def inRow (l : List Int) (i : Nat) : Bool := l.any (fun x => x == (i : Int))
theorem inRow_iff (l : List Int) (i : Nat) : inRow l i = true ↔ (i : Int) ∈ l := by
  unfold inRow
  rw [List.any_eq_true]
  constructor
  · rintro ⟨x, hx, e⟩; rw [beq_iff_eq] at e; exact e ▸ hx
  · exact fun h => ⟨_, h, by simp⟩
theorem nodup_ints {l : List Nat} (h : l.Nodup) : (l.map (fun (i : Nat) => (i : Int))).Nodup := by
  induction l with
  | nil => exact List.nodup_nil
  | cons x l ih =>
    rw [List.nodup_cons] at h
    rw [List.map_cons, List.nodup_cons]
    refine ⟨fun hm => ?_, ih h.2⟩
    obtain ⟨y, hy, e⟩ := List.mem_map.1 hm
    have : y = x := by omega
    exact h.1 (this ▸ hy)
theorem used_le (l : List Int) (ls : List Lk) (m : List Bool) : usedN (inRow l) ls m ≤ l.length := by
  unfold usedN
  refine Nat.le_trans (countP_mono_le _ _ (inRow l) (fun i _ h => by rw [Bool.and_eq_true] at h; exact h.1)) ?_
  rw [List.countP_eq_length_filter]
  have h1 : ((List.range ls.length).filter (inRow l)).Nodup := List.nodup_range.filter _
  have h2 := nodup_ints h1
  have := nodup_sub_len h2 (m := l) (fun x hx => by
    rw [List.mem_map] at hx
    obtain ⟨i, hi, rfl⟩ := hx
    exact (inRow_iff l i).1 (List.mem_filter.1 hi).2)
  rwa [List.length_map] at this
/-- If as many links have both ends marked as the row has, all of its links have. -/
theorem used_full {l : List Int} {ls : List Lk} {m : List Bool} (hl : ∀ i, i ∈ l → 0 ≤ i ∧ i < (ls.length : Int)) (h : l.length ≤ usedN (inRow l) ls m) (hd : l.Nodup) : ∀ i, i ∈ l → m.getD (lk ls i.toNat).f0.toNat false = true ∧ m.getD (lk ls i.toNat).f1.toNat false = true := by
  intro i hi
  apply Decidable.byContradiction
  intro hc
  have hr := hl i hi
  have h1 := countP_strict (List.range ls.length) (fun j => inRow l j && (m.getD (lk ls j).f0.toNat false && m.getD (lk ls j).f1.toNat false)) (inRow l) (fun j _ hj => by rw [Bool.and_eq_true] at hj; exact hj.1) i.toNat (List.mem_range.2 (by omega)) (by
    rw [Bool.eq_false_iff]
    intro ht
    rw [Bool.and_eq_true, Bool.and_eq_true] at ht
    exact hc ht.2) ((inRow_iff l i.toNat).2 (by rw [show ((i.toNat : Nat) : Int) = i by omega]; exact hi))
  have h2 : (List.range ls.length).countP (inRow l) ≤ l.length := by
    rw [List.countP_eq_length_filter]
    have h2 := nodup_ints (List.nodup_range.filter _ : ((List.range ls.length).filter (inRow l)).Nodup)
    have := nodup_sub_len h2 (m := l) (fun x hx => by
      rw [List.mem_map] at hx
      obtain ⟨i, hi, rfl⟩ := hx
      exact (inRow_iff l i).1 (List.mem_filter.1 hi).2)
    rwa [List.length_map] at this
  unfold usedN at h
  omega
end Go.Proofs.Yticjabdkjjbegaa.P
