/- Rows whose elements have several cells: all their cells in one list; a copy of such a row. Plain lemmas over any program. -/
import Derived.Test.YticjabdkjjbegaaWWords
import Derived.Test.YticjabdkjjbegaaWMore
import Derived.Test.YticjabdkjjbegaaWFootNe
import Derived.Laws.CopyRow
import Derived.Laws.CopyOwn
namespace Go.Proofs.Yticjabdkjjbegaa.HRows
open Go.RowKit Go.Proofs.YticjabdkjjbegaaW.PrintWords

/-- A goal that the walk leaves alone: it stops there ('refine Stop0.out ?_'; 'refine ⟨?_⟩' goes on). -/
structure Stop0 (p : Prop) : Prop where mk :: (out : p)

theorem block_of_add (a : Addr) (n : Nat) : (a.add n).block = a.block := by unfold Addr.add; split <;> rfl
theorem add_of_add (a : Addr) (i j : Nat) : (a.add i).add j = a.add (i + j) := by
  unfold Addr.add
  by_cases hi : i = 0 <;> by_cases hj : j = 0 <;> simp [hi, hj, Nat.add_assoc]

/-- All cells of a row that is read, in one list. -/
theorem C_cells {α : Type} {d : Kd α} {w : World} {A : Option Addr} {n : Nat} {xs : List α} (h : d.C w A n xs) :
    ∃ inner : List Value, inner.length = n * d.sz ∧ Reps (d.K w) d.sz xs inner ∧ (0 < n → ∃ ad, A = some ad ∧ ∀ j u, inner[j]? = some u → w.cell? (ad.add j) = some u) := by
  obtain ⟨hl, hm, hc⟩ := h
  rcases Nat.eq_zero_or_pos n with h0 | h0
  · subst h0
    obtain rfl := List.eq_nil_of_length_eq_zero hl
    exact ⟨[], by simp, Reps.none _ _, fun h => absurd h (by omega)⟩
  · obtain ⟨ad, rfl, hcell⟩ := hc h0
    have key : ∀ m, m ≤ xs.length → ∃ inner : List Value, inner.length = m * d.sz ∧ Reps (d.K w) d.sz (xs.take m) inner ∧ ∀ j u, inner[j]? = some u → w.cell? (ad.add j) = some u := by
      intro m
      induction m with
      | zero => exact fun _ => ⟨[], by simp, by rw [List.take_zero]; exact Reps.none _ _, fun j u hu => by simp at hu⟩
      | succ m ih =>
        intro hm'
        obtain ⟨inner, h1, h2, h3⟩ := ih (by omega)
        have hlt : m < xs.length := by omega
        obtain ⟨c, hcl, hK, hcc⟩ := hcell m _ (List.getElem?_eq_getElem hlt)
        refine ⟨inner ++ c, ?_, ?_, ?_⟩
        · rw [List.length_append, h1, hcl, Nat.succ_mul]
        · rw [List.take_succ_eq_append_getElem hlt]
          exact Reps.snoc h2 hK hcl
        · intro j u hu
          rcases Nat.lt_or_ge j inner.length with hj | hj
          · rw [List.getElem?_append_left hj] at hu
            exact h3 j u hu
          · rw [List.getElem?_append_right hj] at hu
            have := hcc _ _ hu
            rw [show m * d.sz + (j - inner.length) = j from by rw [h1] at hj ⊢; omega] at this
            exact this
    obtain ⟨inner, h1, h2, h3⟩ := key xs.length (Nat.le_refl _)
    rw [List.take_length] at h2
    exact ⟨inner, by rw [h1, hl], h2, fun _ => ⟨ad, rfl, h3⟩⟩

theorem reps_one {α : Type} {d : Kd α} {w : World} {xs : List α} {inner : List Value} (h : Reps (d.K w) d.sz xs inner) : ∀ u ∈ inner, u.oneCell' = true := by
  intro u hu
  obtain ⟨j, hj, rfl⟩ := List.getElem_of_mem hu
  have hs : 0 < d.sz := by
    rcases Nat.eq_zero_or_pos d.sz with h0 | h0
    · have := h.1
      rw [h0, Nat.mul_zero] at this
      omega
    · exact h0
  have hlt : j / d.sz < xs.length := by
    rw [Nat.div_lt_iff_lt_mul hs]
    have := h.1
    omega
  have hK := h.2 (j / d.sz) _ (List.getElem?_eq_getElem hlt)
  refine d.K_one hK _ ?_
  rw [List.mem_iff_getElem?]
  refine ⟨j % d.sz, ?_⟩
  rw [List.getElem?_take_of_lt (Nat.mod_lt _ hs), List.getElem?_drop, show j / d.sz * d.sz + j % d.sz = j from by rw [Nat.mul_comm]; exact Nat.div_add_mod j d.sz, List.getElem?_eq_getElem hj]

/-- copy(dst, src), the elements of any size. -/
theorem run_copy_rows {P : Program} (w : World) (dT sT ty elem : TypeId) (g o dLen dCap : Nat) (a : Addr) (sLen sCap sz : Nat) (cur : Array Value) (t : TypeId) (cs : List Value)
    (hu : P.underlying dT = some (.slice elem)) (hs : (P.info? elem).map (·.size) = some sz)
    (hg : w.heap[g]? = some (.cells cur t (0, 0))) (hn : cs.length = Nat.min sLen dLen * sz)
    (hsrc : ∀ j v, cs[j]? = some v → w.cell? (a.add j) = some v) (hfit : o + cs.length ≤ cur.size) (h1 : ∀ v ∈ cs, v.oneCell' = true) :
    (Builtin.copy_ #[dT, sT] ty #[.slice (some ⟨g, o, none⟩) dLen dCap, .slice (some a) sLen sCap]).run P w =
      .ok (goInt (Nat.min sLen dLen)) (w.setRow g (cur.toList.take o ++ cs ++ cur.toList.drop (o + cs.length)).toArray) := by
  have hl := run_loadCells_list (P := P) w a cs hsrc
  have hst := run_storeCells_at P g o t cs 0 cur w hg (by simpa using hfit) h1
  cases hq : P.info? elem with
  | none => simp [hq] at hs
  | some i =>
    have hi : i.size = sz := by simpa [hq] using hs
    simp [Builtin.copy_, run_underlying hu, Builtin.lenOf, Builtin.firstCells, sizeOf, typeInfo, hq, hi, ← hn, hl, hst]

theorem run_copy_zero {P : Program} (w : World) (dT sT ty elem : TypeId) (d a : Option Addr) (dLen dCap sCap sz : Nat) (hu : P.underlying dT = some (.slice elem)) (hs : (P.info? elem).map (·.size) = some sz) :
    (Builtin.copy_ #[dT, sT] ty #[.slice d dLen dCap, .slice a 0 sCap]).run P w = .ok (goInt 0) w := by
  cases hq : P.info? elem with
  | none => simp [hq] at hs
  | some i =>
    have hm : Nat.min 0 dLen = 0 := by simp
    have hl : ∀ a : Addr, (loadCells a 0).run P w = .ok #[] w := fun a => by simpa using run_loadCells_list (P := P) w a [] (by simp)
    cases d <;> cases a <;> simp [Builtin.copy_, run_underlying hu, Builtin.lenOf, Builtin.firstCells, sizeOf, typeInfo, hq, hl, storeCells, hm]

/-- The operation at the head of a list of operations. -/
theorem wpList_run {P : Program} {w w' : World} {ops : Array Oper} {rest : List Oper} {o : Oper} {a : Act} {Q : Exit → Act → World → Prop} (hgd : o.guard = none) {v : Value}
    (hrun : (execOp a.eval o).run P w = .ok (.value v) w') (h : wpList P ops Q rest (a.put o.dst v) w') : wpList P ops Q (o :: rest) a w :=
  wpList_plain hgd fun K hK => by
    unfold Oper.wp
    rw [hrun]
    exact hK _ _ h

/-- A row in new memory whose first cells are these. -/
theorem R_new_row {α : Type} {d : Kd α} {e : Nat} {w : World} {base g cap : Nat} {xs : List α} {cur : Array Value} {inner : List Value} (hM : ∀ x cs, d.K w x cs → d.M w base (fun k => True ∧ some k ≠ (Value.slice (some ⟨g, 0, none⟩) xs.length cap).ownBlock) x cs)
    (hr : Reps (d.K w) d.sz xs inner) (hg : w.heap[g]? = some (.cells cur e (0, 0))) (hb : base ≤ g) (hc : xs.length ≤ cap) (hm : cap ≤ maxLen) (hs : cur.size = cap * d.sz) (ht : cur.toList.take (xs.length * d.sz) = inner) :
    d.R e w base (fun _ => True) (.slice (some ⟨g, 0, none⟩) xs.length cap) xs :=
  ⟨fun _ _ => trivial, inner, ⟨hr.1, .inr ⟨g, cap, cur, rfl, hb, hg, hc, hm, hs, ht⟩⟩, hr.imp_ hM⟩
/-- What is shared lies in a block of its own footprint. -/
theorem V_at {α : Type} {d : Kd α} {e base n c : Nat} {W : World} {ok : Nat → Prop} {ad : Addr} {xs : List α} (h : Kd.V d e W base ok (.slice (some ad) n c) xs) (hn : 0 < xs.length) (hs : 0 < d.sz) : ok ad.block := by
  obtain ⟨A, c', he, _, hF⟩ := h
  injection he with h1 h2 h3
  exact Kd.F_in hF h1.symm hn hs
end Go.Proofs.Yticjabdkjjbegaa.HRows
