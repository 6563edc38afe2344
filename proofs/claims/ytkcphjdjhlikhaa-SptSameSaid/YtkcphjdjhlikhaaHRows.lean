/- Rows whose elements have several cells: all their cells in one list; a copy of such a row. Plain lemmas over any program. -/
import Derived.Test.YtkcphjdjhlikhaaWWords
import Derived.Test.YtkcphjdjhlikhaaWMore
import Derived.Test.YtkcphjdjhlikhaaWFootNe
import Derived.Laws.CopyRow
import Derived.Laws.CopyOwn
import Derived.StillTailTactics
import Derived.Lib.Overlaps
namespace Go.Proofs.Ytkcphjdjhlikhaa.HRows
open Go.RowKit Go.Proofs.YtkcphjdjhlikhaaW.PrintWords

/-- A goal that the walk leaves alone: it stops there ('refine Stop0.out ?_'; 'refine ⟨?_⟩' goes on). -/
structure Stop0 (p : Prop) : Prop where mk :: (out : p)

theorem block_of_add (a : Addr) (n : Nat) : (a.add n).block = a.block := by unfold Addr.add; split <;> rfl
theorem add_of_add (a : Addr) (i j : Nat) : (a.add i).add j = a.add (i + j) := by
  unfold Addr.add
  by_cases hi : i = 0 <;> by_cases hj : j = 0 <;> simp [hi, hj, Nat.add_assoc]

/-- All cells of a row that is read, in one list. -/
theorem C_cells {α : Type} {d : Kd α} {w : World} {A : Option Addr} {n : Nat} {xs : List α} (h : d.C w A n xs) :
    ∃ inner : List Value, inner.length = n * d.sz ∧ Reps (d.K w) d.sz xs inner ∧ (0 < n → ∃ ad, A = some ad ∧ ∀ j u, inner[j]? = some u → w.cell? (ad.add j) = some u) := by
  obtain ⟨hl, hm, hc⟩ := h
  rcases Nat.eq_zero_or_pos n with h0 | h0
  · subst h0
    obtain rfl := List.eq_nil_of_length_eq_zero hl
    exact ⟨[], by simp, Reps.none _ _, fun h => absurd h (by omega)⟩
  · obtain ⟨ad, rfl, hcell⟩ := hc h0
    have key : ∀ m, m ≤ xs.length → ∃ inner : List Value, inner.length = m * d.sz ∧ Reps (d.K w) d.sz (xs.take m) inner ∧ ∀ j u, inner[j]? = some u → w.cell? (ad.add j) = some u := by
      intro m
      induction m with
      | zero => exact fun _ => ⟨[], by simp, by rw [List.take_zero]; exact Reps.none _ _, fun j u hu => by simp at hu⟩
      | succ m ih =>
        intro hm'
        obtain ⟨inner, h1, h2, h3⟩ := ih (by omega)
        have hlt : m < xs.length := by omega
        obtain ⟨c, hcl, hK, hcc⟩ := hcell m _ (List.getElem?_eq_getElem hlt)
        refine ⟨inner ++ c, ?_, ?_, ?_⟩
        · rw [List.length_append, h1, hcl, Nat.succ_mul]
        · rw [List.take_succ_eq_append_getElem hlt]
          exact Reps.snoc h2 hK hcl
        · intro j u hu
          rcases Nat.lt_or_ge j inner.length with hj | hj
          · rw [List.getElem?_append_left hj] at hu
            exact h3 j u hu
          · rw [List.getElem?_append_right hj] at hu
            have := hcc _ _ hu
            rw [show m * d.sz + (j - inner.length) = j from by rw [h1] at hj ⊢; omega] at this
            exact this
    obtain ⟨inner, h1, h2, h3⟩ := key xs.length (Nat.le_refl _)
    rw [List.take_length] at h2
    exact ⟨inner, by rw [h1, hl], h2, fun _ => ⟨ad, rfl, h3⟩⟩

theorem reps_one {α : Type} {d : Kd α} {w : World} {xs : List α} {inner : List Value} (h : Reps (d.K w) d.sz xs inner) : ∀ u ∈ inner, u.oneCell' = true := by
  intro u hu
  obtain ⟨j, hj, rfl⟩ := List.getElem_of_mem hu
  have hs : 0 < d.sz := by
    rcases Nat.eq_zero_or_pos d.sz with h0 | h0
    · have := h.1
      rw [h0, Nat.mul_zero] at this
      omega
    · exact h0
  have hlt : j / d.sz < xs.length := by
    rw [Nat.div_lt_iff_lt_mul hs]
    have := h.1
    omega
  have hK := h.2 (j / d.sz) _ (List.getElem?_eq_getElem hlt)
  refine d.K_one hK _ ?_
  rw [List.mem_iff_getElem?]
  refine ⟨j % d.sz, ?_⟩
  rw [List.getElem?_take_of_lt (Nat.mod_lt _ hs), List.getElem?_drop, show j / d.sz * d.sz + j % d.sz = j from by rw [Nat.mul_comm]; exact Nat.div_add_mod j d.sz, List.getElem?_eq_getElem hj]

/-- copy(dst, src), the elements of any size. -/
theorem run_copy_rows {P : Program} (w : World) (dT sT ty elem : TypeId) (g o dLen dCap : Nat) (a : Addr) (sLen sCap sz : Nat) (cur : Array Value) (t : TypeId) (cs : List Value)
    (hu : P.underlying dT = some (.slice elem)) (hs : (P.info? elem).map (·.size) = some sz)
    (hg : w.heap[g]? = some (.cells cur t (0, 0))) (hn : cs.length = Nat.min sLen dLen * sz)
    (hsrc : ∀ j v, cs[j]? = some v → w.cell? (a.add j) = some v) (hfit : o + cs.length ≤ cur.size) (h1 : ∀ v ∈ cs, v.oneCell' = true) :
    (Builtin.copy_ #[dT, sT] ty #[.slice (some ⟨g, o, none⟩) dLen dCap, .slice (some a) sLen sCap]).run P w =
      .ok (goInt (Nat.min sLen dLen)) (w.setRow g (cur.toList.take o ++ cs ++ cur.toList.drop (o + cs.length)).toArray) := by
  have hl := run_loadCells_list (P := P) w a cs hsrc
  have hst := run_storeCells_at P g o t cs 0 cur w hg (by simpa using hfit) h1
  cases hq : P.info? elem with
  | none => simp [hq] at hs
  | some i =>
    have hi : i.size = sz := by simpa [hq] using hs
    simp [Builtin.copy_, run_underlying hu, Builtin.lenOf, Builtin.firstCells, sizeOf, typeInfo, hq, hi, ← hn, hl, hst]

theorem run_copy_zero {P : Program} (w : World) (dT sT ty elem : TypeId) (d a : Option Addr) (dLen dCap sCap sz : Nat) (hu : P.underlying dT = some (.slice elem)) (hs : (P.info? elem).map (·.size) = some sz) :
    (Builtin.copy_ #[dT, sT] ty #[.slice d dLen dCap, .slice a 0 sCap]).run P w = .ok (goInt 0) w := by
  cases hq : P.info? elem with
  | none => simp [hq] at hs
  | some i =>
    have hm : Nat.min 0 dLen = 0 := by simp
    have hl : ∀ a : Addr, (loadCells a 0).run P w = .ok #[] w := fun a => by simpa using run_loadCells_list (P := P) w a [] (by simp)
    cases d <;> cases a <;> simp [Builtin.copy_, run_underlying hu, Builtin.lenOf, Builtin.firstCells, sizeOf, typeInfo, hq, hl, storeCells, hm]

/-- The operation at the head of a list of operations. -/
theorem wpList_run {P : Program} {w w' : World} {ops : Array Oper} {rest : List Oper} {o : Oper} {a : Act} {Q : Exit → Act → World → Prop} (hgd : o.guard = none) {v : Value}
    (hrun : (execOp a.eval o).run P w = .ok (.value v) w') (h : wpList P ops Q rest (a.put o.dst v) w') : wpList P ops Q (o :: rest) a w :=
  wpList_plain hgd fun K hK => by
    unfold Oper.wp
    rw [hrun]
    exact hK _ _ h

/-- A row in new memory whose first cells are these. -/
theorem R_new_row {α : Type} {d : Kd α} {e : Nat} {w : World} {base g cap : Nat} {xs : List α} {cur : Array Value} {inner : List Value} (hM : ∀ x cs, d.K w x cs → d.M w base (fun k => True ∧ some k ≠ (Value.slice (some ⟨g, 0, none⟩) xs.length cap).ownBlock) x cs)
    (hr : Reps (d.K w) d.sz xs inner) (hg : w.heap[g]? = some (.cells cur e (0, 0))) (hb : base ≤ g) (hc : xs.length ≤ cap) (hm : cap ≤ maxLen) (hs : cur.size = cap * d.sz) (ht : cur.toList.take (xs.length * d.sz) = inner) :
    d.R e w base (fun _ => True) (.slice (some ⟨g, 0, none⟩) xs.length cap) xs :=
  ⟨fun _ _ => trivial, inner, ⟨hr.1, .inr ⟨g, cap, cur, rfl, hb, hg, hc, hm, hs, ht⟩⟩, hr.imp_ hM⟩
/-- What is shared lies in a block of its own footprint. -/
theorem V_at {α : Type} {d : Kd α} {e base n c : Nat} {W : World} {ok : Nat → Prop} {ad : Addr} {xs : List α} (h : Kd.V d e W base ok (.slice (some ad) n c) xs) (hn : 0 < xs.length) (hs : 0 < d.sz) : ok ad.block := by
  obtain ⟨A, c', he, _, hF⟩ := h
  injection he with h1 h2 h3
  exact Kd.F_in hF h1.symm hn hs
/-- All but one block stays. -/
structure Only (g : Nat) (w w' : World) : Prop where
  os : w'.os = w.os
  tape : w'.tape = w.tape
  output : w'.output = w.output
  size : w'.heap.size = w.heap.size
  block : ∀ k, k ≠ g → w'.heap[k]? = w.heap[k]?
theorem Only.below {g b : Nat} {w0 w w' : World} (h : Only g w w') (hB : Below b w0 w) (hg : b ≤ g) : Below b w0 w' :=
  ⟨h.os.trans hB.os, h.tape.trans hB.tape, h.output.trans hB.output, by rw [h.size]; exact hB.size, fun k hk => (h.block k (by omega)).trans (hB.block k hk)⟩
theorem Only.blk {g k : Nat} {w w' : World} {o : Obj} (h : Only g w w') (hk : k ≠ g) (hb : w.heap[k]? = some o) : w'.heap[k]? = some o := (h.block k hk).trans hb
section
variable {P : Program} {ops : Array Oper} {rest : List Oper} {o : Oper} {a : Act} {Q : Exit → Act → World → Prop}
theorem blk_write {W : World} (hgd : o.guard = none) (hN : o.dst = none) {t : TypeId} {p x : Operand} (ho : o.op = .store t p x) {g o' : Nat} {e : TypeId} {cs cs' : Array Value} {u : Value} (seg : List Value) (haddr : a.eval p = .pointer (some ⟨g, o', none⟩)) (hx : a.eval x = u) (hu : u.cells.toList = seg) (ht : (P.info? t).map (·.size) = some seg.length) (h1 : ∀ q ∈ seg, q.oneCell' = true)
    (hh : W.heap[g]? = some (.cells cs e (0, 0))) (hfit : o' + seg.length ≤ cs.size) (hcs : cs'.toList = cs.toList.take o' ++ seg ++ cs.toList.drop (o' + seg.length))
    (h : ∀ W', W'.heap[g]? = some (.cells cs' e (0, 0)) → Only g W W' → wpList P ops Q rest a W') : wpList P ops Q (o :: rest) a W := by
  refine wpList_plain hgd fun K hK => ?_
  unfold Oper.wp
  have hrun : (execOp a.eval o).run P W = .ok .skip (W.setCells g o' seg) := by
    have := run_store_run (P := P) t u seg hh hu ht hfit h1
    simp only [execOp, ho, haddr, hx]
    simp [this]
  rw [hrun]
  show K (a.put o.dst undef) _
  rw [hN]
  obtain ⟨cur', h3, h4, h5⟩ := setCells_row seg o' W cs hh hfit
  obtain ⟨s1, s2, s3, s4⟩ := setCells_same g seg o' W
  have hc : cur' = cs' := Array.toList_inj.1 (h5.trans hcs.symm)
  subst hc
  exact hK _ _ (h _ h3 ⟨s1, s2, s3, s4, fun k hk => setCells_far seg _ k hk⟩)
theorem list_letter {W : World} (p : World → Prop) (hp : p W) (h : ∀ W', p W' → wpList P ops Q rest a W') : wpList P ops Q rest a W := h W hp
end
theorem blk_away {w : World} {g gx j : Nat} {t : TypeId} {cs : Array Value} (h : w.heap[g]? = some (.cells cs t (0, 0))) (hne : g ≠ gx) (u : Value) : (w.setCell ⟨gx, j, none⟩ u).heap[g]? = some (.cells cs t (0, 0)) := blk_far h (p := ⟨gx, j, none⟩) hne u
theorem cells_mid {W : World} {g : Nat} {t : TypeId} {v0 v1 v2 v3 v4 v5 v6 v7 v8 v9 v10 : Value} (h : W.heap[g]? = some (.cells #[v0, v1, v2, v3, v4, v5, v6, v7, v8, v9, v10] t (0, 0))) :
    W.cell? ⟨g, 2, none⟩ = some v2 ∧ W.cell? ⟨g, 3, none⟩ = some v3 ∧ W.cell? ⟨g, 4, none⟩ = some v4 ∧ W.cell? ⟨g, 5, none⟩ = some v5 ∧ W.cell? ⟨g, 6, none⟩ = some v6 ∧ W.cell? ⟨g, 7, none⟩ = some v7 :=
  ⟨(blk_cell h 2).trans rfl, (blk_cell h 3).trans rfl, (blk_cell h 4).trans rfl, (blk_cell h 5).trans rfl, (blk_cell h 6).trans rfl, (blk_cell h 7).trans rfl⟩
theorem cells_port {W : World} {g : Nat} {t : TypeId} {v0 v1 v2 v3 v4 v5 v6 v7 v8 v9 v10 : Value} (h : W.heap[g]? = some (.cells #[v0, v1, v2, v3, v4, v5, v6, v7, v8, v9, v10] t (0, 0))) :
    W.cell? ⟨g, 8, none⟩ = some v8 ∧ W.cell? ⟨g, 9, none⟩ = some v9 ∧ W.cell? ⟨g, 10, none⟩ = some v10 := ⟨(blk_cell h 8).trans rfl, (blk_cell h 9).trans rfl, (blk_cell h 10).trans rfl⟩
/-- copy(dst, src), the elements of any size, dst in a block that is known whole. -/
theorem copy_rows_run {P : Program} {W : World} {o : Oper} {a : Act} (d s : Operand) (dT sT : TypeId)
    (ho : o.op = .call { callee := .builtin .copy, args := #[d, s], argTypes := #[dT, sT] }) (elem : TypeId) (sz : Nat) (hu : P.underlying dT = some (.slice elem)) (hs : (P.info? elem).map (·.size) = some sz)
    (dp sp : Option Addr) (dLen dCap sLen sCap : Nat) (hd : a.eval d = .slice dp dLen dCap) (hx : a.eval s = .slice sp sLen sCap)
    (g off : Nat) (cur : Array Value) (t : TypeId) (hg : W.heap[g]? = some (.cells cur t (0, 0))) (cs : List Value) (hn : cs.length = Nat.min sLen dLen * sz)
    (hpos : 0 < Nat.min sLen dLen → dp = some ⟨g, off, none⟩ ∧ ∃ ad, sp = some ad ∧ ∀ j v, cs[j]? = some v → W.cell? (ad.add j) = some v)
    (hfit : off + cs.length ≤ cur.size) (h1 : ∀ v ∈ cs, v.oneCell' = true) (cur' : Array Value) (hcur : cur'.toList = cur.toList.take off ++ cs ++ cur.toList.drop (off + cs.length)) :
    ∃ W', (execOp a.eval o).run P W = .ok (.value (goInt (Nat.min sLen dLen))) W' ∧ W'.heap[g]? = some (.cells cur' t (0, 0)) ∧ Only g W W' := by
    rcases Nat.eq_zero_or_pos (Nat.min sLen dLen) with h0 | h0
    · have hc0 : cs = [] := List.eq_nil_of_length_eq_zero (by rw [hn, h0, Nat.zero_mul])
      subst hc0
      have hcc : cur' = cur := Array.toList_inj.1 (by rw [hcur]; simp)
      subst hcc
      refine ⟨W, ?_, hg, ⟨rfl, rfl, rfl, rfl, fun _ _ => rfl⟩⟩
      have hz : ∀ ty, (Builtin.copy_ #[dT, sT] ty #[.slice dp dLen dCap, .slice sp sLen sCap]).run P W = .ok (goInt 0) W := by
        intro ty
        cases hq : P.info? elem with
        | none => simp [hq] at hs
        | some i =>
          have hl : ∀ a : Addr, (loadCells a 0).run P W = .ok #[] W := fun a => by simpa using run_loadCells_list (P := P) W a [] (by simp)
          cases dp <;> cases sp <;> simp [Builtin.copy_, run_underlying hu, Builtin.lenOf, Builtin.firstCells, sizeOf, typeInfo, hq, hl, storeCells, h0]
      simp only [execOp, ho, resolve, invoke, builtin, List.map_toArray, List.map_cons, List.map_nil, hd, hx, Sem.run_bind, Sem.run_pure, Result.andThen_ok]
      rw [hz o.type, h0]
      rfl
    · obtain ⟨rfl, ad, rfl, hsrc⟩ := hpos h0
      refine ⟨W.setRow g cur', ?_, setRow_heap W g _ _ t _ hg, ⟨rfl, rfl, rfl, by simp, fun k hk => setRow_other W g k _ hk⟩⟩
      have := run_copy_rows (P := P) W dT sT o.type elem g off dLen dCap ad sLen sCap sz cur t cs hu hs hg hn hsrc hfit h1
      rw [← hcur] at this
      simp only [execOp, ho, resolve, invoke, builtin, List.map_toArray, List.map_cons, List.map_nil, hd, hx, Sem.run_bind, Sem.run_pure, Result.andThen_ok]
      rw [this]
      rfl
theorem wpList_copy_rows {P : Program} {W : World} {ops : Array Oper} {rest : List Oper} {o : Oper} {a : Act} {Q : Exit → Act → World → Prop} (hgd : o.guard = none) (d s : Operand) (dT sT : TypeId)
    (ho : o.op = .call { callee := .builtin .copy, args := #[d, s], argTypes := #[dT, sT] }) (elem : TypeId) (sz : Nat) (hu : P.underlying dT = some (.slice elem)) (hs : (P.info? elem).map (·.size) = some sz)
    (dp sp : Option Addr) (dLen dCap sLen sCap : Nat) (hd : a.eval d = .slice dp dLen dCap) (hx : a.eval s = .slice sp sLen sCap)
    (g off : Nat) (cur : Array Value) (t : TypeId) (hg : W.heap[g]? = some (.cells cur t (0, 0))) (cs : List Value) (hn : cs.length = Nat.min sLen dLen * sz)
    (hpos : 0 < Nat.min sLen dLen → dp = some ⟨g, off, none⟩ ∧ ∃ ad, sp = some ad ∧ ∀ j v, cs[j]? = some v → W.cell? (ad.add j) = some v)
    (hfit : off + cs.length ≤ cur.size) (h1 : ∀ v ∈ cs, v.oneCell' = true) (cur' : Array Value) (hcur : cur'.toList = cur.toList.take off ++ cs ++ cur.toList.drop (off + cs.length))
    (h : ∀ W', W'.heap[g]? = some (.cells cur' t (0, 0)) → Only g W W' → wpList P ops Q rest (a.put o.dst (goInt (Nat.min sLen dLen))) W') : wpList P ops Q (o :: rest) a W := by
  obtain ⟨W', hr, h2, h3⟩ := copy_rows_run (P := P) d s dT sT ho elem sz hu hs dp sp dLen dCap sLen sCap hd hx g off cur t hg cs hn hpos hfit h1 cur' hcur
  refine wpList_plain hgd fun K hK => ?_
  unfold Oper.wp
  rw [hr]
  exact hK _ _ (h W' h2 h3)
theorem step_copy_rows {P : Program} {W : World} {ops : Array Oper} {o : Oper} {a : Act} {K : Act → World → Prop} {Q : Exit → Act → World → Prop} {E : Prop} (hgd : o.guard = none) (d s : Operand) (dT sT : TypeId)
    (ho : o.op = .call { callee := .builtin .copy, args := #[d, s], argTypes := #[dT, sT] }) (elem : TypeId) (sz : Nat) (hu : P.underlying dT = some (.slice elem)) (hs : (P.info? elem).map (·.size) = some sz)
    (dp sp : Option Addr) (dLen dCap sLen sCap : Nat) (hd : a.eval d = .slice dp dLen dCap) (hx : a.eval s = .slice sp sLen sCap)
    (g off : Nat) (cur : Array Value) (t : TypeId) (hg : W.heap[g]? = some (.cells cur t (0, 0))) (cs : List Value) (hn : cs.length = Nat.min sLen dLen * sz)
    (hpos : 0 < Nat.min sLen dLen → dp = some ⟨g, off, none⟩ ∧ ∃ ad, sp = some ad ∧ ∀ j v, cs[j]? = some v → W.cell? (ad.add j) = some v)
    (hfit : off + cs.length ≤ cur.size) (h1 : ∀ v ∈ cs, v.oneCell' = true) (cur' : Array Value) (hcur : cur'.toList = cur.toList.take off ++ cs ++ cur.toList.drop (off + cs.length))
    (h : ∀ W', W'.heap[g]? = some (.cells cur' t (0, 0)) → Only g W W' → K (a.put o.dst (goInt (Nat.min sLen dLen))) W') : if Region.wanted o (yielded ops a.tmps) = true then Oper.wp P o a W K Q else E := by
  have hw : Region.wanted o (yielded ops a.tmps) = true := by simp [Region.wanted, hgd]
  rw [if_pos hw]
  obtain ⟨W', hr, h2, h3⟩ := copy_rows_run (P := P) d s dT sT ho elem sz hu hs dp sp dLen dCap sLen sCap hd hx g off cur t hg cs hn hpos hfit h1 cur' hcur
  unfold Oper.wp
  rw [hr]
  exact h W' h2 h3
/-- append(s, make([]T, m)...) where there is no room: a new block. -/
theorem run_append_zeros_grows {P : Program} (w : World) (t ti ty e : TypeId) (i : TypeInfo) (z : Value) (ht : P.underlying t = some (.slice e)) {k : IntKind} (hti : P.underlying ti = some (.int k)) (hi : P.info? e = some i) (hz : i.zero = some z)
    (hsz : 0 < i.size) (A : Option Addr) (n cap m : Nat) (xs : List Value) (hfo : (Builtin.firstCells i.size n (.slice A n cap)).run P w.drew = .ok xs.toArray w.drew) (kx : IntKind) (hm : 0 < m) (hcap : cap < n + m)
    (hb0 : 0 < i.bytes) (hbytes : (n + m) * i.bytes ≤ 140737488355328) :
    (Builtin.append_ #[t, ti] ty #[.slice A n cap, .int kx m]).run P w =
      .ok (.slice (some ⟨w.heap.size, 0, none⟩) (n + m) (grownCap w (n + m) cap e)) (w.drew.alloc (.cells (xs.toArray ++ (Builtin.zeroCells z.cells m ++ Builtin.zeroCells z.cells (grownCap w (n + m) cap e - (n + m)))) e)) := by
  have hle : n + m ≤ 140737488355328 := Nat.le_trans (Nat.le_mul_of_pos_right _ hb0) hbytes
  have hw : IntKind.i64.wrap (m : Int) = m := by rw [IntKind.wrap_i64]; omega
  have hneg : ¬ ((m : Int) < 0) := by omega
  have hmb : m * i.bytes ≤ 140737488355328 := Nat.le_trans (Nat.mul_le_mul_right _ (Nat.le_add_left m n)) hbytes
  have hbig : ¬ (281474976710656 < (m : Int) * (i.bytes : Int)) := by
    rw [← Int.natCast_mul]
    omega
  have hn : ¬ (n + m ≤ cap) := by omega
  have h63' : ¬ (9223372036854775807 < ((n : Int) + (m : Int))) := by omega
  have hfit := growslice_fits hcap hbytes
  have h48' : ¬ (281474976710656 < Builtin.nextslicecap (n + m) cap * i.bytes) := by omega
  have hmz : ¬ (m * i.size = 0) := Nat.mul_ne_zero (by omega) (by omega)
  simp [Builtin.append_, run_underlying ht, run_underlying hti, sizeOf, typeInfo, zeroValue, hi, hz, asInt, asIntOf, hw, hneg, hbig, hn, h63', h48', Question.forced, hfo, newRow, grownCap, hmz]
/-! Rows of the call's own whose elements share, by their block's cells. -/
theorem Only.grown {g : Nat} {w w' : World} (h : Only g w w') : w.grownBy w' (some g) := ⟨h.os, h.tape, h.output, by rw [h.size]; exact Nat.le_refl _, fun k _ hk => h.block k (fun e => hk (by rw [e]))⟩
theorem Only.trans {g : Nat} {w w' w2 : World} (h : Only g w w') (h2 : Only g w' w2) : Only g w w2 := ⟨h2.os.trans h.os, h2.tape.trans h.tape, h2.output.trans h.output, h2.size.trans h.size, fun k hk => (h2.block k hk).trans (h.block k hk)⟩
theorem reps_take {α : Type} {R : α → List Value → Prop} {sz : Nat} {xs : List α} {inner : List Value} (h : Reps R sz xs inner) (i : Nat) : Reps R sz (xs.take i) (inner.take (i * sz)) := by
  rcases Nat.lt_or_ge xs.length i with hi | hi
  · rw [List.take_of_length_le (by omega), List.take_of_length_le (by rw [h.1]; exact Nat.mul_le_mul_right _ (by omega))]
    exact h
  · refine ⟨by rw [List.length_take, List.length_take, h.1, Nat.min_eq_left hi, Nat.min_eq_left (Nat.mul_le_mul_right _ hi)], fun j p hj => ?_⟩
    rw [List.getElem?_take] at hj
    split at hj
    · rename_i hji
      have h1 : j * sz + sz ≤ i * sz := by rw [← Nat.succ_mul]; exact Nat.mul_le_mul_right _ hji
      rw [List.drop_take, List.take_take, Nat.min_eq_left (by omega)]
      exact h.2 j p hj
    · cases hj
theorem reps_drop {α : Type} {R : α → List Value → Prop} {sz : Nat} {xs : List α} {inner : List Value} (h : Reps R sz xs inner) (i : Nat) : Reps R sz (xs.drop i) (inner.drop (i * sz)) := by
  refine ⟨by rw [List.length_drop, List.length_drop, h.1, Nat.sub_mul], fun j p hj => ?_⟩
  rw [List.getElem?_drop] at hj
  rw [List.drop_drop, ← Nat.add_mul]
  exact h.2 (i + j) p hj
theorem reps_single {α : Type} {R : α → List Value → Prop} {sz : Nat} {x : α} {c : List Value} (h : R x c) (hl : c.length = sz) : Reps R sz [x] c := by
  have := Reps.snoc (Reps.none R sz) h hl
  simpa using this
theorem N_open {α : Type} {d : Kd α} {e : Nat} {W : World} {base g n cap : Nat} {ok : Nat → Prop} {xs : List α} (h : Kd.N d e W base ok (.slice (some ⟨g, 0, none⟩) n cap) xs) :
    n = xs.length ∧ ok g ∧ base ≤ g ∧ n ≤ cap ∧ cap ≤ maxLen ∧ ∃ (cur : Array Value) (inner : List Value), W.heap[g]? = some (.cells cur e (0, 0)) ∧ cur.size = cap * d.sz ∧ cur.toList.take (n * d.sz) = inner ∧ Reps (fun x c => Kd.FK d W (fun k => ok k ∧ k ≠ g) x c) d.sz xs inner := by
  have hn := (Kd.N_reads' h).1
  obtain ⟨h0, rows, hl, ⟨_, inner, ho, hr⟩, hf⟩ := h
  refine ⟨hn, h0 g (by simp [Value.ownBlock]), ?_⟩
  rcases ho.2 with ⟨h1, _⟩ | ⟨g', cap', cur, h1, hb, hh, hnc, hcm, hcs, ht⟩
  · cases h1
  · injection h1 with h1 h2 h3
    injection h1 with h1
    injection h1 with h1
    subst h1
    subst h3
    rw [hl, ← hn] at hnc ht
    rw [show (Kd.raw d.sz).sz = d.sz from rfl] at hcs ht hr
    refine ⟨hb, hnc, hcm, cur, inner, hh, hcs, ht, by rw [hr.1, hl], fun j x hx => ?_⟩
    have hj : j < rows.length := by rw [hl]; exact (List.getElem?_eq_some_iff.1 hx).1
    have h2 := hr.2 j _ (List.getElem?_eq_getElem hj)
    rw [h2.1]
    exact Kd.FK_mono (hf j x _ hx (List.getElem?_eq_getElem hj)) (fun k hk => ⟨hk.1, fun e => hk.2 (by rw [e]; simp [Value.ownBlock])⟩)
theorem N_mk {α : Type} {d : Kd α} {e : Nat} {W : World} {base g cap : Nat} {ok : Nat → Prop} {xs : List α} {cur : Array Value} {inner : List Value} (hh : W.heap[g]? = some (.cells cur e (0, 0))) (hb : base ≤ g) (hg : ok g) (hn : xs.length ≤ cap) (hm : cap ≤ maxLen)
    (hcs : cur.size = cap * d.sz) (ht : cur.toList.take (xs.length * d.sz) = inner) (hr : Reps (fun x c => Kd.FK d W (fun k => ok k ∧ k ≠ g) x c) d.sz xs inner) : Kd.N d e W base ok (.slice (some ⟨g, 0, none⟩) xs.length cap) xs := by
  refine ⟨fun k hk => ?_, Kd.chunks d.sz xs.length inner, Kd.chunks_length _ _ _, ⟨fun k hk => hk.symm, inner, ⟨by rw [Kd.chunks_length]; exact hr.1, .inr ⟨g, cap, cur, by rw [Kd.chunks_length], hb, hh, by rw [Kd.chunks_length]; exact hn, hm, hcs, by rw [Kd.chunks_length]; exact ht⟩⟩, Kd.reps_raw hr (fun x c hp => ⟨d.K_len (Kd.FK_now hp), d.K_one (Kd.FK_now hp)⟩)⟩, fun j x c hx hc => ?_⟩
  · have : g = k := by simpa [Value.ownBlock] using hk
    rwa [← this]
  · rw [Kd.chunks_get hc]
    exact Kd.FK_mono (hr.2 j x hx) (fun k hk => ⟨hk.1, fun e => hk.2 (by simpa [Value.ownBlock] using e)⟩)
theorem reps_one_F {α : Type} {d : Kd α} {W : World} {ok : Nat → Prop} {xs : List α} {inner : List Value} (h : Reps (fun x c => Kd.FK d W ok x c) d.sz xs inner) : ∀ u ∈ inner, u.oneCell' = true :=
  reps_one (d := d) (w := W) (xs := xs) (h.imp_ (fun _ _ hp => Kd.FK_now hp))
theorem reps_F_step {α : Type} {d : Kd α} {W W' : World} {ok : Nat → Prop} {sz : Nat} {xs : List α} {inner : List Value} (h : Reps (fun x c => Kd.FK d W ok x c) sz xs inner) (hm : ∀ k, ok k → k < W.heap.size → W'.heap[k]? = W.heap[k]?) : Reps (fun x c => Kd.FK d W' ok x c) sz xs inner := h.imp_ (fun _ _ hp => Kd.FK_step hp hm)
/-- The cells of a block, one by one. -/
theorem row_cells {W : World} {g : Nat} {cur : Array Value} {t : TypeId} (hg : W.heap[g]? = some (.cells cur t (0, 0))) (o : Nat) {cs : List Value} (hc : ∀ j v, cs[j]? = some v → cur.toList[o + j]? = some v) : ∀ j v, cs[j]? = some v → W.cell? ((⟨g, o, none⟩ : Addr).add j) = some v := by
  intro j v hv
  have h2 := hc j v hv
  have : W.cell? ⟨g, o + j, none⟩ = some v := by
    rw [cell_of_row W g (o + j) cur t (0, 0) hg]
    simpa using h2
  unfold Addr.add
  by_cases h0 : j = 0
  · subst h0
    simpa using this
  · simpa [h0] using this
theorem wpList_append_run {P : Program} {W W' : World} {ops : Array Oper} {rest : List Oper} {o : Oper} {a : Act} {Q : Exit → Act → World → Prop} (hgd : o.guard = none) (s x : Operand) (t1 t2 : TypeId) {v vs vx : Value}
    (ho : o.op = .call { callee := .builtin .append, args := #[s, x], argTypes := #[t1, t2] }) (hs : a.eval s = vs) (hx : a.eval x = vx) (hrun : (Builtin.append_ #[t1, t2] o.type #[vs, vx]).run P W = .ok v W')
    (h : wpList P ops Q rest (a.put o.dst v) W') : wpList P ops Q (o :: rest) a W := by
  refine wpList_run hgd (v := v) (w' := W') ?_ h
  simp only [execOp, ho, resolve, invoke, builtin, List.map_toArray, List.map_cons, List.map_nil, hs, hx, Sem.run_bind, Sem.run_pure, Result.andThen_ok]
  rw [hrun]
  rfl
theorem add0 (g o k : Nat) : (⟨g, o, none⟩ : Addr).add k = ⟨g, o + k, none⟩ := add_at g o k
theorem one_zeroCells (cs : Array Value) (h : ∀ u ∈ cs.toList, u.oneCell' = true) (n : Nat) : ∀ u ∈ (Builtin.zeroCells cs n).toList, u.oneCell' = true := by
  intro u hu
  rcases Nat.eq_zero_or_pos cs.size with h0 | h0
  · have : (Builtin.zeroCells cs n).toList.length = 0 := by rw [Array.length_toList, size_zeroCells, h0, Nat.mul_zero]
    rw [List.eq_nil_of_length_eq_zero this] at hu
    cases hu
  · unfold Builtin.zeroCells at hu
    rw [Array.toList_map, List.mem_map] at hu
    obtain ⟨j, _, rfl⟩ := hu
    have hlt : j % cs.size < cs.size := Nat.mod_lt _ h0
    rw [getElem!_pos cs (j % cs.size) hlt]
    exact h _ (by simp)
/-- clear(s), the elements of any size, in a block that is known whole. -/
theorem clear_rows_run {P : Program} {W : World} {o : Oper} {a : Act} (s : Operand) (t : TypeId) (ho : o.op = .call { callee := .builtin .clear, args := #[s], argTypes := #[t] }) (elem : TypeId) (sz : Nat) (hu : P.underlying t = some (.slice elem)) (z : Value) (hz : ∀ W, (zeroValue elem).run P W = .ok z W) (hzs : z.cells.size = sz) (hz1 : ∀ u ∈ z.cells.toList, u.oneCell' = true)
    (g off n c : Nat) (hs : a.eval s = .slice (some ⟨g, off, none⟩) n c) (hn : 0 < n) (cur : Array Value) (t' : TypeId) (hg : W.heap[g]? = some (.cells cur t' (0, 0))) (hfit : off + n * sz ≤ cur.size) :
    ∃ W' cur', (execOp a.eval o).run P W = .ok (.value (.tuple #[])) W' ∧ W'.heap[g]? = some (.cells cur' t' (0, 0)) ∧ cur'.size = cur.size ∧ cur'.toList.take off = cur.toList.take off ∧ Only g W W' := by
  have h1 := one_zeroCells z.cells hz1 n
  have hl : (Builtin.zeroCells z.cells n).toList.length = n * sz := by rw [Array.length_toList, size_zeroCells, hzs]
  generalize hnews : (Builtin.zeroCells z.cells n).toList = news at h1 hl
  obtain ⟨cur', h3, h4, h5⟩ := setCells_row news off W cur hg (by rw [hl]; exact hfit)
  obtain ⟨s1, s2, s3, s4⟩ := setCells_same g news off W
  have hst := run_storeCells_cells (P := P) g off news 0 W (fun j hj => by rw [cell_of_row W g _ cur t' (0, 0) hg]; simp; omega) (fun j _ => blk_frozen hg _) h1
  simp only [Nat.add_zero] at hst
  refine ⟨W.setCells g off news, cur', ?_, h3, h4, ?_, ⟨s1, s2, s3, s4, fun k hk => setCells_far news _ k hk⟩⟩
  · obtain ⟨m, rfl⟩ : ∃ m, n = m + 1 := ⟨n - 1, by omega⟩
    simp only [execOp, ho, resolve, invoke, builtin, List.map_toArray, List.map_cons, List.map_nil, hs, Sem.run_bind, Sem.run_pure, Result.andThen_ok]
    simp [Builtin.clear_, run_underlying hu, hz, hnews, hst]
  · rw [h5, List.append_assoc, List.take_append_of_le_length (by rw [List.length_take, Array.length_toList]; omega), List.take_take, Nat.min_self]
theorem wpList_clear_rows {P : Program} {W : World} {ops : Array Oper} {rest : List Oper} {o : Oper} {a : Act} {Q : Exit → Act → World → Prop} (hgd : o.guard = none) (s : Operand) (t : TypeId) (ho : o.op = .call { callee := .builtin .clear, args := #[s], argTypes := #[t] }) (elem : TypeId) (sz : Nat) (hu : P.underlying t = some (.slice elem)) (z : Value) (hz : ∀ W, (zeroValue elem).run P W = .ok z W) (hzs : z.cells.size = sz) (hz1 : ∀ u ∈ z.cells.toList, u.oneCell' = true)
    (g off n c : Nat) (hs : a.eval s = .slice (some ⟨g, off, none⟩) n c) (hn : 0 < n) (cur : Array Value) (t' : TypeId) (hg : W.heap[g]? = some (.cells cur t' (0, 0))) (hfit : off + n * sz ≤ cur.size)
    (h : ∀ W' cur', W'.heap[g]? = some (.cells cur' t' (0, 0)) → cur'.size = cur.size → cur'.toList.take off = cur.toList.take off → Only g W W' → wpList P ops Q rest (a.put o.dst (.tuple #[])) W') : wpList P ops Q (o :: rest) a W := by
  obtain ⟨W', cur', hr, h2, h3, h4, h5⟩ := clear_rows_run (P := P) s t ho elem sz hu z hz hzs hz1 g off n c hs hn cur t' hg hfit
  exact wpList_run hgd hr (h W' cur' h2 h3 h4 h5)
/-! ### a whole row appended to a row that may begin inside its block -/
namespace Kd
section
variable {P : Program} {ops : Array Oper} {rest : List Oper} {o : Oper} {a : Act} {Q' : Exit → Act → World → Prop} {Kc : Act → World → Prop} {α : Type}
theorem Q_run_rows (d : Kd α) {Rr : α → List Value → Prop} {w0 W : World} (base : Nat) (t ty e : TypeId) (z : Value) (bytes : Nat)
    (ht : P.underlying t = some (.slice e)) (hinfo : (P.info? e).map (fun i => (i.zero, i.size, i.bytes)) = some (some z, d.sz, bytes)) (hz : z.cells.size = d.sz) (hs0 : 0 < d.sz) (hb0 : 0 < bytes)
    (v : Value) (xs ys : List α) (A : Option Addr) (m c : Nat) (ok okp : Nat → Prop)
    (HO : d.Q e W base ok v xs) (HR : ReadsRow Rr d.sz W A m ys) (hKM : ∀ x cs, Rr x cs → d.M W base okp x cs) (hokp : ∀ k, okp k → ok k ∧ some k ≠ v.ownBlock) (hfresh : ∀ k, W.heap.size ≤ k → ok k)
    (HB : Below base w0 W) (hbase : base ≤ W.heap.size) (hl : (xs.length + m) * bytes ≤ 140737488355328) :
    ∃ v1 w1, (Builtin.append_ #[t, t] ty #[v, .slice A m c]).run P W = .ok v1 w1 ∧ d.Q e w1 base ok v1 (xs ++ ys) ∧ Below base w0 w1 ∧ W.grownBy w1 v.ownBlock ∧ (v1.ownBlock = v.ownBlock ∨ ∃ b, v1.ownBlock = some b ∧ W.heap.size ≤ b) := by
  obtain ⟨i0, hi, hzz⟩ := Option.map_eq_some_iff.1 hinfo
  simp only [Prod.mk.injEq] at hzz
  obtain ⟨hz0, hz1, hz2⟩ := hzz
  have hm : ys.length = m := HR.1
  have hlen : xs.length + m ≤ 140737488355328 := Nat.le_trans (Nat.le_mul_of_pos_right _ hb0) hl
  obtain ⟨hok, inner, hown, hr⟩ := HO
  rcases Nat.eq_zero_or_pos m with h0 | hpos
  · subst h0
    obtain rfl : ys = [] := List.eq_nil_of_length_eq_zero hm
    refine ⟨v, W, ?_, by rw [List.append_nil]; exact ⟨hok, inner, hown, hr⟩, HB, World.grownBy.refl W _, .inl rfl⟩
    rcases hown.2 with ⟨hn, A', rfl, _⟩ | ⟨g, off, cap, cur, rfl, _, _, hnc, _⟩
    · cases A <;> cases A' <;> simp [Builtin.append_, run_underlying ht, sizeOf, typeInfo, hi, Builtin.lenOf, Builtin.firstCells, storeCells, loadCells, loadCellsFrom]
    · cases A <;> simp [Builtin.append_, run_underlying ht, sizeOf, typeInfo, hi, Builtin.lenOf, Builtin.firstCells, hnc, storeCells, loadCells, loadCellsFrom]
  · obtain ⟨ad, rfl, _⟩ := HR.2.2 hpos
    obtain ⟨news, hnr, hnc⟩ := ReadsRow.inner_ HR
    have hnM : Reps (d.M W base okp) d.sz ys news := hnr.imp_ (fun p c hp => hKM p c hp)
    have hone : ∀ u ∈ news, u.oneCell' = true := by
      intro u hu
      obtain ⟨q, hq, rfl⟩ := List.mem_iff_getElem.1 hu
      have hql : q / d.sz < ys.length := by
        rw [Nat.div_lt_iff_lt_mul hs0]
        rw [← hnM.1]
        exact hq
      have hc := hnM.2 (q / d.sz) _ (List.getElem?_eq_getElem hql)
      refine d.K_one (d.K_of_M hc) _ ?_
      rw [List.mem_iff_getElem?]
      refine ⟨q % d.sz, ?_⟩
      rw [List.getElem?_take, if_pos (Nat.mod_lt _ hs0), List.getElem?_drop, Nat.mul_comm, Nat.div_add_mod, List.getElem?_eq_getElem hq]
    obtain ⟨v1, w1, hrun, h2, hg, hat⟩ := q_append (P := P) W base t ty e i0 z d.sz bytes ht hi hz0 hz1 hz2 hz hs0 v xs.length inner hown ad m c news (by rw [hnM.1, hm]) hnc hone hpos (by simp only [maxLen]; omega) hl hbase
    have hne : ∀ k, some k ≠ v.ownBlock → k < W.heap.size → some k ≠ v1.ownBlock := by
      intro k hk hlt
      rcases hat with hat | ⟨b, hb, hle⟩
      · rw [hat]; exact hk
      · rw [hb]
        intro he
        injection he with he
        omega
    have step : ∀ {q : α} {c : List Value} {o : Nat → Prop}, d.M W base o q c → (∀ k, o k → ok k ∧ some k ≠ v.ownBlock) → d.M w1 base (fun k => ok k ∧ some k ≠ v1.ownBlock) q c := by
      intro q c o hq ho
      have h1 := d.M_move (w1 := w1) (fun k hk => hg.block k hk.2.2.1 (ho k hk.1).2) (d.M_bound hq)
      exact d.M_mono (fun k hk => ⟨(ho k hk.1).1, hne k (ho k hk.1).2 hk.2.2.1⟩) h1
    refine ⟨v1, w1, hrun, ⟨fun k hk => ?_, inner ++ news, by rw [List.length_append, hm]; exact h2, Kd.reps_append (hr.imp_ (fun _ _ hq => step hq (fun _ hk => hk))) (hnM.imp_ (fun _ _ hq => step hq hokp))⟩, HB.grown hg hbase (fun k hk => (q_typed hown k hk).1), hg, hat⟩
    rcases hat with hat | ⟨b, hb, hle⟩
    · exact hok k (hat ▸ hk)
    · rw [hb] at hk
      injection hk with hk
      exact hfresh k (by omega)
theorem Q_append_rows (d : Kd α) {Rr : α → List Value → Prop} {w0 W : World} (base : Nat) (hgd : o.guard = none) (s x : Operand) (t e : TypeId) (z : Value) (bytes : Nat)
    (ho : o.op = .call { callee := .builtin .append, args := #[s, x], argTypes := #[t, t] })
    (ht : P.underlying t = some (.slice e)) (hinfo : (P.info? e).map (fun i => (i.zero, i.size, i.bytes)) = some (some z, d.sz, bytes)) (hz : z.cells.size = d.sz) (hs0 : 0 < d.sz) (hb0 : 0 < bytes)
    (v : Value) (xs ys : List α) (A : Option Addr) (m c : Nat) (ok okp : Nat → Prop) (hs : a.eval s = v) (hx : a.eval x = .slice A m c)
    (HO : d.Q e W base ok v xs) (HR : ReadsRow Rr d.sz W A m ys) (hKM : ∀ x cs, Rr x cs → d.M W base okp x cs) (hokp : ∀ k, okp k → ok k ∧ some k ≠ v.ownBlock) (hfresh : ∀ k, W.heap.size ≤ k → ok k)
    (HB : Below base w0 W) (hbase : base ≤ W.heap.size) (hl : (xs.length + m) * bytes ≤ 140737488355328)
    (h : ∀ v1 w1, d.Q e w1 base ok v1 (xs ++ ys) → Below base w0 w1 → W.grownBy w1 v.ownBlock → (v1.ownBlock = v.ownBlock ∨ ∃ b, v1.ownBlock = some b ∧ W.heap.size ≤ b) → wpList P ops Q' rest (a.put o.dst v1) w1) :
    wpList P ops Q' (o :: rest) a W := by
  obtain ⟨v1, w1, hr, h1, h2, h3, h4⟩ := Q_run_rows (P := P) d base t o.type e z bytes ht hinfo hz hs0 hb0 v xs ys A m c ok okp HO HR hKM hokp hfresh HB hbase hl
  refine wpList_plain hgd fun K hK => ?_
  unfold Oper.wp execOp
  simp only [ho, resolve, invoke, builtin, Sem.run_bind, Sem.run_pure, Result.andThen_ok, List.map_toArray, List.map_cons, List.map_nil, hs, hx, hr]
  exact hK _ _ (h v1 w1 h1 h2 h3 h4)
theorem Q_append_rows_step (d : Kd α) {Rr : α → List Value → Prop} {w0 W : World} (base : Nat) (hw : Region.wanted o (yielded ops a.tmps) = true) (s x : Operand) (t e : TypeId) (z : Value) (bytes : Nat)
    (ho : o.op = .call { callee := .builtin .append, args := #[s, x], argTypes := #[t, t] })
    (ht : P.underlying t = some (.slice e)) (hinfo : (P.info? e).map (fun i => (i.zero, i.size, i.bytes)) = some (some z, d.sz, bytes)) (hz : z.cells.size = d.sz) (hs0 : 0 < d.sz) (hb0 : 0 < bytes)
    (v : Value) (xs ys : List α) (A : Option Addr) (m c : Nat) (ok okp : Nat → Prop) (hs : a.eval s = v) (hx : a.eval x = .slice A m c)
    (HO : d.Q e W base ok v xs) (HR : ReadsRow Rr d.sz W A m ys) (hKM : ∀ x cs, Rr x cs → d.M W base okp x cs) (hokp : ∀ k, okp k → ok k ∧ some k ≠ v.ownBlock) (hfresh : ∀ k, W.heap.size ≤ k → ok k)
    (HB : Below base w0 W) (hbase : base ≤ W.heap.size) (hl : (xs.length + m) * bytes ≤ 140737488355328)
    (h : ∀ v1 w1, d.Q e w1 base ok v1 (xs ++ ys) → Below base w0 w1 → W.grownBy w1 v.ownBlock → (v1.ownBlock = v.ownBlock ∨ ∃ b, v1.ownBlock = some b ∧ W.heap.size ≤ b) → Kc (a.put o.dst v1) w1) :
    if Region.wanted o (yielded ops a.tmps) = true then Oper.wp P o a W Kc Q' else Kc (a.put o.dst undef) W := by
  obtain ⟨v1, w1, hr, h1, h2, h3, h4⟩ := Q_run_rows (P := P) d base t o.type e z bytes ht hinfo hz hs0 hb0 v xs ys A m c ok okp HO HR hKM hokp hfresh HB hbase hl
  rw [if_pos hw]
  unfold Oper.wp execOp
  simp only [ho, resolve, invoke, builtin, Sem.run_bind, Sem.run_pure, Result.andThen_ok, List.map_toArray, List.map_cons, List.map_nil, hs, hx, hr]
  exact h v1 w1 h1 h2 h3 h4
end
end Kd
end Go.Proofs.Ytkcphjdjhlikhaa.HRows
