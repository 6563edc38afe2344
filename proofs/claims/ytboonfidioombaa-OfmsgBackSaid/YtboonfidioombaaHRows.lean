/- Plain lemmas over any program, thinned by this claim's maker's own program. No condition. -/
import Derived.Test.YtboonfidioombaaV0
import Derived.Test.YtboonfidioombaaV1
import Derived.Laws.CopyRow
import Derived.Laws.CopyOwn
import Derived.StillTailTactics
import Derived.Lib.Overlaps
namespace Go.Proofs.Ytboonfidioombaa.HRows
open Go.RowKit Go.Proofs.YtboonfidioombaaW.PrintWords
structure Stop0 (p : Prop) : Prop where mk :: (out : p)
theorem add_of_add (a : Addr) (i j : Nat) : (a.add i).add j = a.add (i + j) := by
 unfold Addr.add
 by_cases hi : i = 0 <;> by_cases hj : j = 0 <;> simp [hi, hj, Nat.add_assoc]
theorem reps_one {α : Type} {d : Kd α} {w : World} {xs : List α} {inner : List Value} (h : Reps (d.K w) d.sz xs inner) : ∀ u ∈ inner, u.oneCell' = true := by
 intro u hu
 obtain ⟨j, hj, rfl⟩ := List.getElem_of_mem hu
 have hs : 0 < d.sz := by
  rcases Nat.eq_zero_or_pos d.sz with h0 | h0
  ·have := h.1
   rw [h0, Nat.mul_zero] at this
   omega
  ·exact h0
 have hlt : j / d.sz < xs.length := by
  rw [Nat.div_lt_iff_lt_mul hs]
  have := h.1
  omega
 have hK := h.2 (j / d.sz) _ (List.getElem?_eq_getElem hlt)
 refine d.K_one hK _ ?_
 rw [List.mem_iff_getElem?]
 refine ⟨j % d.sz, ?_⟩
 rw [List.getElem?_take_of_lt (Nat.mod_lt _ hs), List.getElem?_drop, show j / d.sz * d.sz + j % d.sz = j from by rw [Nat.mul_comm]; exact Nat.div_add_mod j d.sz, List.getElem?_eq_getElem hj]
theorem V_at {α : Type} {d : Kd α} {e base n c : Nat} {W : World} {ok : Nat → Prop} {ad : Addr} {xs : List α} (h : Kd.V d e W base ok (.slice (some ad) n c) xs) (hn : 0 < xs.length) (hs : 0 < d.sz) : ok ad.block := by
 obtain ⟨A, c', he, _, hF⟩ := h
 injection he with h1 h2 h3
 exact Kd.F_in hF h1.symm hn hs
structure Only (g : Nat) (w w' : World) : Prop where
 os : w'.os = w.os
 tape : w'.tape = w.tape
 output : w'.output = w.output
 size : w'.heap.size = w.heap.size
 block : ∀ k, k ≠ g → w'.heap[k]? = w.heap[k]?
theorem Only.below {g b : Nat} {w0 w w' : World} (h : Only g w w') (hB : Below b w0 w) (hg : b ≤ g) : Below b w0 w' :=
 ⟨h.os.trans hB.os, h.tape.trans hB.tape, h.output.trans hB.output, by rw [h.size]; exact hB.size, fun k hk => (h.block k (by omega)).trans (hB.block k hk)⟩
theorem Only.blk {g k : Nat} {w w' : World} {o : Obj} (h : Only g w w') (hk : k ≠ g) (hb : w.heap[k]? = some o) : w'.heap[k]? = some o := (h.block k hk).trans hb
section
variable {P : Program} {ops : Array Oper} {rest : List Oper} {o : Oper} {a : Act} {Q : Exit → Act → World → Prop}
theorem blk_write {W : World} (hgd : o.guard = none) (hN : o.dst = none) {t : TypeId} {p x : Operand} (ho : o.op = .store t p x) {g o' : Nat} {e : TypeId} {cs cs' : Array Value} {u : Value} (seg : List Value) (haddr : a.eval p = .pointer (some ⟨g, o', none⟩)) (hx : a.eval x = u) (hu : u.cells.toList = seg) (ht : (P.info? t).map (·.size) = some seg.length) (h1 : ∀ q ∈ seg, q.oneCell' = true)
  (hh : W.heap[g]? = some (.cells cs e (0, 0))) (hfit : o' + seg.length ≤ cs.size) (hcs : cs'.toList = cs.toList.take o' ++ seg ++ cs.toList.drop (o' + seg.length))
  (h : ∀ W', W'.heap[g]? = some (.cells cs' e (0, 0)) → Only g W W' → wpList P ops Q rest a W') : wpList P ops Q (o :: rest) a W := by
 refine wpList_plain hgd fun K hK => ?_
 unfold Oper.wp
 have hrun : (execOp a.eval o).run P W = .ok .skip (W.setCells g o' seg) := by
  have := run_store_run (P := P) t u seg hh hu ht hfit h1
  simp only [execOp, ho, haddr, hx]
  simp [this]
 rw [hrun]
 show K (a.put o.dst undef) _
 rw [hN]
 obtain ⟨cur', h3, h4, h5⟩ := setCells_row seg o' W cs hh hfit
 obtain ⟨s1, s2, s3, s4⟩ := setCells_same g seg o' W
 have hc : cur' = cs' := Array.toList_inj.1 (h5.trans hcs.symm)
 subst hc
 exact hK _ _ (h _ h3 ⟨s1, s2, s3, s4, fun k hk => setCells_far seg _ k hk⟩)
end
theorem blk_away {w : World} {g gx j : Nat} {t : TypeId} {cs : Array Value} (h : w.heap[g]? = some (.cells cs t (0, 0))) (hne : g ≠ gx) (u : Value) : (w.setCell ⟨gx, j, none⟩ u).heap[g]? = some (.cells cs t (0, 0)) := blk_far h (p := ⟨gx, j, none⟩) hne u
theorem cells_mid {W : World} {g : Nat} {t : TypeId} {v0 v1 v2 v3 v4 v5 v6 v7 v8 v9 v10 : Value} (h : W.heap[g]? = some (.cells #[v0, v1, v2, v3, v4, v5, v6, v7, v8, v9, v10] t (0, 0))) :
  W.cell? ⟨g, 2, none⟩ = some v2 ∧ W.cell? ⟨g, 3, none⟩ = some v3 ∧ W.cell? ⟨g, 4, none⟩ = some v4 ∧ W.cell? ⟨g, 5, none⟩ = some v5 ∧ W.cell? ⟨g, 6, none⟩ = some v6 ∧ W.cell? ⟨g, 7, none⟩ = some v7 :=
 ⟨(blk_cell h 2).trans rfl, (blk_cell h 3).trans rfl, (blk_cell h 4).trans rfl, (blk_cell h 5).trans rfl, (blk_cell h 6).trans rfl, (blk_cell h 7).trans rfl⟩
theorem cells_port {W : World} {g : Nat} {t : TypeId} {v0 v1 v2 v3 v4 v5 v6 v7 v8 v9 v10 : Value} (h : W.heap[g]? = some (.cells #[v0, v1, v2, v3, v4, v5, v6, v7, v8, v9, v10] t (0, 0))) :
  W.cell? ⟨g, 8, none⟩ = some v8 ∧ W.cell? ⟨g, 9, none⟩ = some v9 ∧ W.cell? ⟨g, 10, none⟩ = some v10 := ⟨(blk_cell h 8).trans rfl, (blk_cell h 9).trans rfl, (blk_cell h 10).trans rfl⟩
theorem Only.grown {g : Nat} {w w' : World} (h : Only g w w') : w.grownBy w' (some g) := ⟨h.os, h.tape, h.output, by rw [h.size]; exact Nat.le_refl _, fun k _ hk => h.block k (fun e => hk (by rw [e]))⟩
theorem Only.trans {g : Nat} {w w' w2 : World} (h : Only g w w') (h2 : Only g w' w2) : Only g w w2 := ⟨h2.os.trans h.os, h2.tape.trans h.tape, h2.output.trans h.output, h2.size.trans h.size, fun k hk => (h2.block k hk).trans (h.block k hk)⟩
theorem reps_take {α : Type} {R : α → List Value → Prop} {sz : Nat} {xs : List α} {inner : List Value} (h : Reps R sz xs inner) (i : Nat) : Reps R sz (xs.take i) (inner.take (i * sz)) := by
 rcases Nat.lt_or_ge xs.length i with hi | hi
 ·rw [List.take_of_length_le (by omega), List.take_of_length_le (by rw [h.1]; exact Nat.mul_le_mul_right _ (by omega))]
  exact h
 ·refine ⟨by rw [List.length_take, List.length_take, h.1, Nat.min_eq_left hi, Nat.min_eq_left (Nat.mul_le_mul_right _ hi)], fun j p hj => ?_⟩
  rw [List.getElem?_take] at hj
  split at hj
  ·rename_i hji
   have h1 : j * sz + sz ≤ i * sz := by rw [← Nat.succ_mul]; exact Nat.mul_le_mul_right _ hji
   rw [List.drop_take, List.take_take, Nat.min_eq_left (by omega)]
   exact h.2 j p hj
  ·cases hj
theorem reps_drop {α : Type} {R : α → List Value → Prop} {sz : Nat} {xs : List α} {inner : List Value} (h : Reps R sz xs inner) (i : Nat) : Reps R sz (xs.drop i) (inner.drop (i * sz)) := by
 refine ⟨by rw [List.length_drop, List.length_drop, h.1, Nat.sub_mul], fun j p hj => ?_⟩
 rw [List.getElem?_drop] at hj
 rw [List.drop_drop, ← Nat.add_mul]
 exact h.2 (i + j) p hj
namespace Kd
section
variable {P : Program} {ops : Array Oper} {rest : List Oper} {o : Oper} {a : Act} {Q' : Exit → Act → World → Prop} {Kc : Act → World → Prop} {α : Type}
theorem Q_run_rows (d : Kd α) {Rr : α → List Value → Prop} {w0 W : World} (base : Nat) (t ty e : TypeId) (z : Value) (bytes : Nat)
  (ht : P.underlying t = some (.slice e)) (hinfo : (P.info? e).map (fun i => (i.zero, i.size, i.bytes)) = some (some z, d.sz, bytes)) (hz : z.cells.size = d.sz) (hs0 : 0 < d.sz) (hb0 : 0 < bytes)
  (v : Value) (xs ys : List α) (A : Option Addr) (m c : Nat) (ok okp : Nat → Prop)
  (HO : d.Q e W base ok v xs) (HR : ReadsRow Rr d.sz W A m ys) (hKM : ∀ x cs, Rr x cs → d.M W base okp x cs) (hokp : ∀ k, okp k → ok k ∧ some k ≠ v.ownBlock) (hfresh : ∀ k, W.heap.size ≤ k → ok k)
  (HB : Below base w0 W) (hbase : base ≤ W.heap.size) (hl : (xs.length + m) * bytes ≤ 140737488355328) :
  ∃ v1 w1, (Builtin.append_ #[t, t] ty #[v, .slice A m c]).run P W = .ok v1 w1 ∧ d.Q e w1 base ok v1 (xs ++ ys) ∧ Below base w0 w1 ∧ W.grownBy w1 v.ownBlock ∧ (v1.ownBlock = v.ownBlock ∨ ∃ b, v1.ownBlock = some b ∧ W.heap.size ≤ b) := by
 obtain ⟨i0, hi, hzz⟩ := Option.map_eq_some_iff.1 hinfo
 simp only [Prod.mk.injEq] at hzz
 obtain ⟨hz0, hz1, hz2⟩ := hzz
 have hm : ys.length = m := HR.1
 have hlen : xs.length + m ≤ 140737488355328 := Nat.le_trans (Nat.le_mul_of_pos_right _ hb0) hl
 obtain ⟨hok, inner, hown, hr⟩ := HO
 rcases Nat.eq_zero_or_pos m with h0 | hpos
 ·subst h0
  obtain rfl : ys = [] := List.eq_nil_of_length_eq_zero hm
  refine ⟨v, W, ?_, by rw [List.append_nil]; exact ⟨hok, inner, hown, hr⟩, HB, World.grownBy.refl W _, .inl rfl⟩
  rcases hown.2 with ⟨hn, A', rfl, _⟩ | ⟨g, off, cap, cur, rfl, _, _, hnc, _⟩
  ·cases A <;> cases A' <;> simp [Builtin.append_, run_underlying ht, sizeOf, typeInfo, hi, Builtin.lenOf, Builtin.firstCells, storeCells, loadCells, loadCellsFrom]
  ·cases A <;> simp [Builtin.append_, run_underlying ht, sizeOf, typeInfo, hi, Builtin.lenOf, Builtin.firstCells, hnc, storeCells, loadCells, loadCellsFrom]
 ·obtain ⟨ad, rfl, _⟩ := HR.2.2 hpos
  obtain ⟨news, hnr, hnc⟩ := ReadsRow.inner_ HR
  have hnM : Reps (d.M W base okp) d.sz ys news := hnr.imp_ (fun p c hp => hKM p c hp)
  have hone : ∀ u ∈ news, u.oneCell' = true := by
   intro u hu
   obtain ⟨q, hq, rfl⟩ := List.mem_iff_getElem.1 hu
   have hql : q / d.sz < ys.length := by
    rw [Nat.div_lt_iff_lt_mul hs0]
    rw [← hnM.1]
    exact hq
   have hc := hnM.2 (q / d.sz) _ (List.getElem?_eq_getElem hql)
   refine d.K_one (d.K_of_M hc) _ ?_
   rw [List.mem_iff_getElem?]
   refine ⟨q % d.sz, ?_⟩
   rw [List.getElem?_take, if_pos (Nat.mod_lt _ hs0), List.getElem?_drop, Nat.mul_comm, Nat.div_add_mod, List.getElem?_eq_getElem hq]
  obtain ⟨v1, w1, hrun, h2, hg, hat⟩ := q_append (P := P) W base t ty e i0 z d.sz bytes ht hi hz0 hz1 hz2 hz hs0 v xs.length inner hown ad m c news (by rw [hnM.1, hm]) hnc hone hpos (by simp only [maxLen]; omega) hl hbase
  have hne : ∀ k, some k ≠ v.ownBlock → k < W.heap.size → some k ≠ v1.ownBlock := by
   intro k hk hlt
   rcases hat with hat | ⟨b, hb, hle⟩
   ·rw [hat]; exact hk
   ·rw [hb]
    intro he
    injection he with he
    omega
  have step : ∀ {q : α} {c : List Value} {o : Nat → Prop}, d.M W base o q c → (∀ k, o k → ok k ∧ some k ≠ v.ownBlock) → d.M w1 base (fun k => ok k ∧ some k ≠ v1.ownBlock) q c := by
   intro q c o hq ho
   have h1 := d.M_move (w1 := w1) (fun k hk => hg.block k hk.2.2.1 (ho k hk.1).2) (d.M_bound hq)
   exact d.M_mono (fun k hk => ⟨(ho k hk.1).1, hne k (ho k hk.1).2 hk.2.2.1⟩) h1
  refine ⟨v1, w1, hrun, ⟨fun k hk => ?_, inner ++ news, by rw [List.length_append, hm]; exact h2, Kd.reps_append (hr.imp_ (fun _ _ hq => step hq (fun _ hk => hk))) (hnM.imp_ (fun _ _ hq => step hq hokp))⟩, HB.grown hg hbase (fun k hk => (q_typed hown k hk).1), hg, hat⟩
  rcases hat with hat | ⟨b, hb, hle⟩
  ·exact hok k (hat ▸ hk)
  ·rw [hb] at hk
   injection hk with hk
   exact hfresh k (by omega)
theorem Q_append_rows (d : Kd α) {Rr : α → List Value → Prop} {w0 W : World} (base : Nat) (hgd : o.guard = none) (s x : Operand) (t e : TypeId) (z : Value) (bytes : Nat)
  (ho : o.op = .call { callee := .builtin .append, args := #[s, x], argTypes := #[t, t] })
  (ht : P.underlying t = some (.slice e)) (hinfo : (P.info? e).map (fun i => (i.zero, i.size, i.bytes)) = some (some z, d.sz, bytes)) (hz : z.cells.size = d.sz) (hs0 : 0 < d.sz) (hb0 : 0 < bytes)
  (v : Value) (xs ys : List α) (A : Option Addr) (m c : Nat) (ok okp : Nat → Prop) (hs : a.eval s = v) (hx : a.eval x = .slice A m c)
  (HO : d.Q e W base ok v xs) (HR : ReadsRow Rr d.sz W A m ys) (hKM : ∀ x cs, Rr x cs → d.M W base okp x cs) (hokp : ∀ k, okp k → ok k ∧ some k ≠ v.ownBlock) (hfresh : ∀ k, W.heap.size ≤ k → ok k)
  (HB : Below base w0 W) (hbase : base ≤ W.heap.size) (hl : (xs.length + m) * bytes ≤ 140737488355328)
  (h : ∀ v1 w1, d.Q e w1 base ok v1 (xs ++ ys) → Below base w0 w1 → W.grownBy w1 v.ownBlock → (v1.ownBlock = v.ownBlock ∨ ∃ b, v1.ownBlock = some b ∧ W.heap.size ≤ b) → wpList P ops Q' rest (a.put o.dst v1) w1) :
  wpList P ops Q' (o :: rest) a W := by
 obtain ⟨v1, w1, hr, h1, h2, h3, h4⟩ := Q_run_rows (P := P) d base t o.type e z bytes ht hinfo hz hs0 hb0 v xs ys A m c ok okp HO HR hKM hokp hfresh HB hbase hl
 refine wpList_plain hgd fun K hK => ?_
 unfold Oper.wp execOp
 simp only [ho, resolve, invoke, builtin, Sem.run_bind, Sem.run_pure, Result.andThen_ok, List.map_toArray, List.map_cons, List.map_nil, hs, hx, hr]
 exact hK _ _ (h v1 w1 h1 h2 h3 h4)
end
end Kd
end Go.Proofs.Ytboonfidioombaa.HRows
