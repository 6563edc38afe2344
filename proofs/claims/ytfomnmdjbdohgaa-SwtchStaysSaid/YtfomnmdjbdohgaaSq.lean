/- Short words for what the printed texts say over and over. No condition. -/
import Derived.WalkKit
import Derived.KernelRfl
import Derived.Test.YtfomnmdjbdohgaaV0
import Derived.Test.YtfomnmdjbdohgaaV1
namespace Go.Proofs.Ytfomnmdjbdohgaa.P
open Go.RowKit Go.Proofs.YtfomnmdjbdohgaaW.PrintWords Go.Proofs.YtfomnmdjbdohgaaW.PrintLast Go.Proofs.YtfomnmdjbdohgaaW.PrintMore
def bs_ (n b : Nat) : Array Bool := ((List.range n).map (fun i => Nat.testBit b i)).toArray
theorem bc_ {w : World} {g : Nat} {t : TypeId} {cs : Array Value} {c : Value} (h : w.heap[g]? = some (.cells cs t (0, 0))) (i : Nat) (e : cs[i]? = some c := by rfl) : w.cell? ⟨g, i, none⟩ = some c := (blk_cell h i).trans e
theorem kp_ {w w' : World} {a : Addr} {v : Value} (h : Below w.heap.size w w') (hv : w.cell? a = some v) : w'.cell? a = some v := (h.cell (World.block_lt_of_cell? w _ hv)).trans hv
theorem a1_ {α : Type} (l : List α) (i : Nat) (a : α) : l.toArray.setIfInBounds i a = (l.set i a).toArray := List.setIfInBounds_toArray ..
theorem a2_ {α : Type} (x : α) (xs : List α) (a : α) : (x :: xs).set 0 a = a :: xs := List.set_cons_zero
theorem a3_ {α : Type} (x : α) (xs : List α) (n : Nat) (a : α) : (x :: xs).set (n + 1) a = x :: xs.set n a := List.set_cons_succ
theorem m_ {p : Prop} (h : p) : Aside0 p := ⟨h⟩
theorem bz_ {b : Nat} {w w' : World} (h : Below b w w' := by repeat (first | (with_reducible first | exact HB.out | apply below_alloc | apply pw_below_drewN | apply below_drew1 | refine below_set ?_ (Aside0.out (by assumption))) | exact HB.out)) : Below b w w' := h
theorem kz_ {w : World} {g : Nat} {o : Obj} (h : w.heap[g]? = some o := by (with_reducible repeat (first | refine blk_drewN ?_ _ | refine blk_drew ?_ | refine blk_alloc ?_ _)); exact (Aside0.out (by assumption))) : w.heap[g]? = some o := h
theorem kl_ {w w1 : World} {o : Obj} (g : Nat) (hb : Below w.heap.size w w1) (h : w.heap[g]? = some o := by (with_reducible repeat (first | refine blk_drewN ?_ _ | refine blk_drew ?_ | refine blk_alloc ?_ _)); exact (Aside0.out (by assumption))) : w1.heap[g]? = some o := blk_below h hb
theorem bf1_ {w : World} {g g' i : Nat} {t : TypeId} {cs : Array Value} (h : w.heap[g]? = some (.cells cs t (0, 0))) (hp : g ≠ g') (u : Value) : (w.setCell ⟨g', i, none⟩ u).heap[g]? = some (.cells cs t (0, 0)) := blk_far h hp u
theorem kb_ {w : World} {g : Nat} {t : TypeId} {cs cs' : Array Value} (h : w.heap[g]? = some (.cells cs t (0, 0)) := by repeat (first | (with_reducible exact (Aside0.out (by assumption))) | (with_reducible refine blk_drewN ?_ _) | (with_reducible refine blk_drew ?_) | (with_reducible refine blk_alloc ?_ _) | (with_reducible apply blk_set) | (with_reducible apply bf1_; case hp => exact (Aside0.out (by assumption))))) (e : cs = cs' := by simp only [a1_, a2_, a3_]) : w.heap[g]? = some (.cells cs' t (0, 0)) := e ▸ h
theorem gw_ {n g : Nat} (h : n ≤ g := by rw [hg]; exact below_size bz_) : n ≤ g := h
theorem gl_ {n g : Nat} (h : n ≠ g := by rw [hg]; exact Nat.ne_of_lt (blk_lt kz_)) : n ≠ g := h
theorem gr_ {n g : Nat} (h : n ≠ g := by rw [hg]; exact Nat.ne_of_gt (blk_lt kz_)) : n ≠ g := h
theorem Cd_ {p q : Prop} (h0 : p) (h : p → q := by intro h_; repeat (first | exact h_ | (with_reducible refine Kd.C_alloc ?_ _) | (with_reducible refine Kd.C_drewN ?_ _) | (with_reducible refine Kd.C_drew ?_))) : q := h h0
theorem ew_ {p : Prop} (h : p := by first | rfl | (simp [errW_none, errW_some] <;> rfl) | (simp [*, errW_none, errW_some] <;> rfl)) : p := h
theorem od_ {p : Prop} [Decidable p] (h : decide p = true := by first | (with_reducible assumption) | assumption) : p := of_decide_eq_true h
theorem Vz_ {p q : Prop} (h0 : p) (h : p → q := by intro h_; (with_reducible repeat (first | apply Kd.V_alloc | apply Kd.V_drewN | apply Kd.V_drew)); exact h_) : q := h h0
theorem Vy_ {α : Type} {d : Kd α} {e base : Nat} {w w' : World} {ok : Nat → Prop} {v : Value} {xs : List α} (h0 : Kd.V d e w base ok v xs) (h : Kd.V d e w base ok v xs → Kd.V d e w' base ok v xs := by intro h_; (with_reducible repeat (first | apply Kd.V_alloc | apply Kd.V_drewN | apply Kd.V_drew)); exact h_) : Kd.V d e w' base ok v xs := h h0
theorem Vf_ {α : Type} {d : Kd α} {e base : Nat} {w w' : World} {ok : Nat → Prop} {v : Value} {xs : List α} (h0 : Kd.V d e w base ok v xs) (h : Kd.V d e w base ok v xs → Kd.V d e w' base ok v xs := by intro h_; repeat (first | (with_reducible exact h_) | (with_reducible apply Kd.V_alloc) | (with_reducible apply Kd.V_drewN) | (with_reducible apply Kd.V_drew) | refine Kd.V_far ?_ (fun _ hk => hk.2) _)) : Kd.V d e w' base ok v xs := h h0
theorem Nz_ {p q : Prop} (h0 : p) (h : p → q := by intro h_; (with_reducible repeat (first | apply Kd.N_alloc | apply Kd.N_drewN | apply Kd.N_drew)); exact h_) : q := h h0
theorem Sz_ {p q : Prop} (h0 : p) (h : p → q := by intro h_; (with_reducible repeat (first | apply Kd.S_alloc | apply Kd.S_drewN | apply Kd.S_drew)); exact h_) : q := h h0
theorem Sf_ {α : Type} {d : Kd α} {e base : Nat} {w w' : World} {ok : Nat → Prop} {v : Value} {xs : List α} (h0 : Kd.S d e w base ok v xs) (h : Kd.S d e w base ok v xs → Kd.S d e w' base ok v xs := by intro h_; repeat (first | (with_reducible exact h_) | (with_reducible apply Kd.S_alloc) | (with_reducible apply Kd.S_drewN) | (with_reducible apply Kd.S_drew) | refine Kd.S_far ?_ (fun _ hk => hk.2) _)) : Kd.S d e w' base ok v xs := h h0
section
variable {P : Program} {md : Region.Mode} {ops : Array Oper} {Q : Exit → Act → World → Prop} {S : World → Prop} {ds : List Nat}
theorem pz_ (i N : Nat) {v : Value} {n b fuel : Nat} {a a' : Act} {w : World} {oi : Oper} (h : wpAnyLast P md ops Q S ds fuel (bs_ n (b + 2 ^ i)) a' w)
  (hi : ops[i]? = some oi := by rfl) (hN : oi.dst = some N := by rfl) (hc : anyB md ops (bs_ n b) (bs_ n (b + 2 ^ i)) i = true := by exact any_of HT_.out (by kernel_rfl))
  (hy : Yields P ops oi v a := by first | exact Or.inr ⟨by rfl, rfl⟩ | exact Or.inl ⟨by rfl, by intro w'; go_simp; with_reducible rfl⟩)
  (ha : a.put (some N) v = a' := by simp only [Act.put, a1_, a2_, a3_, i64_w, i32_w]; rfl)
  (hQ : ∀ c a w, Q (.panic c) (a.put oi.dst v) w → Q (.panic c) a w := by exact (fun _ _ _ h => h)) : wpAnyLast P md ops Q S ds (fuel + 1) (bs_ n b) a w := pure_ _ hi hN hc hQ hy ha h
theorem tz_ (i N : Nat) {v : Value} {n b fuel : Nat} {a a' : Act} {w : World} {oi : Oper} (h : wpAnyLast P md ops Q S ds fuel (bs_ n (b + 2 ^ i)) a' w)
  (hi : ops[i]? = some oi := by rfl) (hN : oi.dst = some N := by rfl) (hc : takeB md ops ds (bs_ n b) (bs_ n (b + 2 ^ i)) i = true := by exact take_ofW HT_.out HW_.out (by kernel_rfl))
  (hy : YieldsIf P ops S oi v a := by first | exact Or.inr ⟨by rfl, rfl⟩ | exact Or.inl ⟨by rfl, by intro w' hS_; (try dsimp only at hS_); (try simp only [add_plain] at hS_); go_simp; with_reducible rfl⟩)
  (hS : S w := by exact hHeld)
  (ha : a.put (some N) v = a' := by simp only [Act.put, a1_, a2_, a3_, i64_w, i32_w]; rfl)
  (hQ : ∀ c a w, Q (.panic c) (a.put oi.dst v) w → Q (.panic c) a w := by exact (fun _ _ _ h => h)) : wpAnyLast P md ops Q S ds (fuel + 1) (bs_ n b) a w := take_ _ hi hN hc hQ hy hS ha h
theorem pk_ (i N : Nat) {v : Value} {n b fuel : Nat} {a a' : Act} {w : World} {oi : Oper} (h : wpAnyLast P md ops Q S ds fuel (bs_ n (b + 2 ^ i)) a' w)
  (hi : ops[i]? = some oi := by rfl) (hN : oi.dst = some N := by rfl) (hc : anyB md ops (bs_ n b) (bs_ n (b + 2 ^ i)) i = true := by kernel_rfl)
  (hy : Yields P ops oi v a := by first | exact Or.inr ⟨by rfl, rfl⟩ | exact Or.inl ⟨by rfl, by intro w'; go_simp; with_reducible rfl⟩)
  (ha : a.put (some N) v = a' := by simp only [Act.put, a1_, a2_, a3_]; rfl)
  (hQ : ∀ c a w, Q (.panic c) (a.put oi.dst v) w → Q (.panic c) a w := by exact (fun _ _ _ h => h)) : wpAnyLast P md ops Q S ds (fuel + 1) (bs_ n b) a w := pure_ _ hi hN hc hQ hy ha h
theorem tk_ (i N : Nat) {v : Value} {n b fuel : Nat} {a a' : Act} {w : World} {oi : Oper} (h : wpAnyLast P md ops Q S ds fuel (bs_ n (b + 2 ^ i)) a' w)
  (hi : ops[i]? = some oi := by rfl) (hN : oi.dst = some N := by rfl) (hc : takeB md ops ds (bs_ n b) (bs_ n (b + 2 ^ i)) i = true := by kernel_rfl)
  (hy : YieldsIf P ops S oi v a := by first | exact Or.inr ⟨by rfl, rfl⟩ | exact Or.inl ⟨by rfl, by intro w' hS_; (try dsimp only at hS_); (try simp only [add_plain] at hS_); go_simp; with_reducible rfl⟩)
  (hS : S w := by exact hHeld)
  (ha : a.put (some N) v = a' := by simp only [Act.put, a1_, a2_, a3_]; rfl)
  (hQ : ∀ c a w, Q (.panic c) (a.put oi.dst v) w → Q (.panic c) a w := by exact (fun _ _ _ h => h)) : wpAnyLast P md ops Q S ds (fuel + 1) (bs_ n b) a w := take_ _ hi hN hc hQ hy hS ha h
theorem oz_ (i : Nat) (N : Option Tmp) {n b fuel : Nat} {a : Act} {w : World} {oi : Oper}
  (h : ∀ K : Act → World → Prop, Shut (∀ a' w', S w' → (S w' → wpAnyLast P md ops Q S ds fuel (bs_ n (b + 2 ^ i)) a' w') → K a' w') → if Region.wanted oi (yielded ops a.tmps) = true then Oper.wp P oi a w K Q else K (a.put N undef) w)
  (hi : ops[i]? = some oi := by rfl) (hN : oi.dst = N := by rfl) (hc : readyB md ops (bs_ n b) (bs_ n (b + 2 ^ i)) i = true := by exact one_of HT_.out (by kernel_rfl)) (hd : i ∉ ds := by decide) : wpAnyLast P md ops Q S ds (fuel + 1) (bs_ n b) a w := one_ _ hi hN hc hd h
theorem nz_ (N : Option Tmp) {fuel : Nat} {l : Array Bool} {a b a' : Act} {v : Value} {w : World} (h : wpAnyLast P md ops Q S ds fuel l a' w) (hb : a = b.put N v := by rfl) (ha : b.put N v = a' := by simp only [Act.put, a1_, a2_, a3_, i64_w, i32_w]; rfl) : wpAnyLast P md ops Q S ds fuel l a w := norm_ (by rw [hb]; exact ha) h
theorem dz_ {l : Array Bool} {a : Act} {w : World} {n : Nat} (h : Q .normal a w) (hr : (Region.ready md ops l == []) = true := by exact done_of HT_.out (by kernel_rfl)) : wpAnyLast P md ops Q S ds n l a w := done_ hr h
end
section
variable {P : Program} {ops : Array Oper} {Q : Exit → Act → World → Prop}
theorem gz_ {oi : Oper} {N : Option Tmp} {a : Act} {w : World} {K : Act → World → Prop} {f : FuncId} {fn : Func} {as : Array Operand} {ts : Array TypeId} (hf : P.funcs[f]? = some fn) (args : Array Value)
  (h : Calls P f args w fun e w' => ∃ v, e = .returned v ∧ K (a.put N v) w')
  (hop : oi.op = .call { callee := .value (.func f), args := as, argTypes := ts } := by rfl) (hargs : as.map a.eval = args := by (try simp only [List.map_toArray, List.map_cons, List.map_nil]); first | done | rfl | (simp only [List.length_drop, List.length_take]; rfl))
  (hw : Region.wanted oi (yielded ops a.tmps) = true := by rfl) (hN : oi.dst = N := by rfl) (hname : (fn.name == "runtime.NumGoroutine") = false := by kernel_rfl) (hb : fn.body.isSome = true := by rfl) : if Region.wanted oi (yielded ops a.tmps) = true then Oper.wp P oi a w K Q else K (a.put N undef) w := goes_ hf hname hb args hw hN hop hargs h
theorem gL_ {rest : List Oper} {oi : Oper} {a : Act} {w : World} (N : Option Tmp) {f : FuncId} {fn : Func} {as : Array Operand} {ts : Array TypeId} (hf : P.funcs[f]? = some fn) (args : Array Value)
  (h : Calls P f args w fun e w' => ∃ v, e = .returned v ∧ wpList P ops Q rest (a.put N v) w')
  (hop : oi.op = .call { callee := .value (.func f), args := as, argTypes := ts } := by rfl) (hargs : as.map a.eval = args := by (try simp only [List.map_toArray, List.map_cons, List.map_nil]); first | done | rfl | (simp only [List.length_drop, List.length_take]; rfl))
  (hd : oi.dst = N := by rfl) (hg : oi.guard = none := by rfl) (hname : (fn.name == "runtime.NumGoroutine") = false := by kernel_rfl) (hb : fn.body.isSome = true := by rfl) : wpList P ops Q (oi :: rest) a w := goesL_ N hd hg hf hname hb args hop hargs h
theorem bx_ {rest : List Oper} {o : Oper} {a : Act} {W : World} (N : Tmp) (t : TypeId) (cs : Array Value)
  (h : ∀ g, g = W.heap.size → ∀ w1, w1.heap[g]? = some (.cells cs t (0, 0)) → Below W.heap.size W w1 → wpList P ops Q rest (a.put o.dst (.pointer (some ⟨g, 0, none⟩))) w1)
  (hgd : o.guard = none := by rfl) (hd : o.dst = some N := by rfl) (hrun : (execOp a.eval o).run P W = .ok (.value (.pointer (some ⟨W.heap.size, 0, none⟩))) (W.alloc (.cells cs t (0, 0))) := by first | (go_simp; done) | (go_simp; rfl)) : wpList P ops Q (o :: rest) a W := box_event hgd hd hrun h
end
section
variable {P : Program} {ops : Array Oper} {Q : Exit → Act → World → Prop}
theorem st_ {rest : List Oper} {o : Oper} {a : Act} {W : World} (t : TypeId) (p : Tmp) {v : Operand} (w1 : World) (h : ∀ w', w' = w1 → wpList P ops Q rest a w')
  (ho : o.op = .store t (.tmp p) v := by rfl) (hgd : o.guard = none := by rfl) (hN : o.dst = none := by rfl) (hrun : (execOp a.eval o).run P W = .ok .skip w1 := by first | (go_simp; done) | (go_simp; rfl)) : wpList P ops Q (o :: rest) a W := store_event hgd ho hN hrun h
end
theorem cz2_ {w : World} {g : Nat} {t : TypeId} {c0 c1 : Value} (h : w.heap[g]? = some (.cells #[c0, c1] t (0, 0))) : w.cell? ⟨g, 0, none⟩ = some c0 ∧ w.frozen? ⟨g, 0, none⟩ = false ∧ w.cell? ⟨g, 1, none⟩ = some c1 ∧ w.frozen? ⟨g, 1, none⟩ = false := ⟨(blk_cell h 0).trans rfl, blk_frozen h 0, (blk_cell h 1).trans rfl, blk_frozen h 1⟩
theorem cz3_ {w : World} {g : Nat} {t : TypeId} {c0 c1 c2 : Value} (h : w.heap[g]? = some (.cells #[c0, c1, c2] t (0, 0))) : w.cell? ⟨g, 0, none⟩ = some c0 ∧ w.frozen? ⟨g, 0, none⟩ = false ∧ w.cell? ⟨g, 1, none⟩ = some c1 ∧ w.frozen? ⟨g, 1, none⟩ = false ∧ w.cell? ⟨g, 2, none⟩ = some c2 ∧ w.frozen? ⟨g, 2, none⟩ = false := ⟨(blk_cell h 0).trans rfl, blk_frozen h 0, (blk_cell h 1).trans rfl, blk_frozen h 1, (blk_cell h 2).trans rfl, blk_frozen h 2⟩
theorem cz6_ {w : World} {g : Nat} {t : TypeId} {c0 c1 c2 c3 c4 c5 : Value} (h : w.heap[g]? = some (.cells #[c0, c1, c2, c3, c4, c5] t (0, 0))) : w.cell? ⟨g, 0, none⟩ = some c0 ∧ w.frozen? ⟨g, 0, none⟩ = false ∧ w.cell? ⟨g, 1, none⟩ = some c1 ∧ w.frozen? ⟨g, 1, none⟩ = false ∧ w.cell? ⟨g, 2, none⟩ = some c2 ∧ w.frozen? ⟨g, 2, none⟩ = false ∧ w.cell? ⟨g, 3, none⟩ = some c3 ∧ w.frozen? ⟨g, 3, none⟩ = false ∧ w.cell? ⟨g, 4, none⟩ = some c4 ∧ w.frozen? ⟨g, 4, none⟩ = false ∧ w.cell? ⟨g, 5, none⟩ = some c5 ∧ w.frozen? ⟨g, 5, none⟩ = false := ⟨(blk_cell h 0).trans rfl, blk_frozen h 0, (blk_cell h 1).trans rfl, blk_frozen h 1, (blk_cell h 2).trans rfl, blk_frozen h 2, (blk_cell h 3).trans rfl, blk_frozen h 3, (blk_cell h 4).trans rfl, blk_frozen h 4, (blk_cell h 5).trans rfl, blk_frozen h 5⟩
theorem cz11_ {w : World} {g : Nat} {t : TypeId} {c0 c1 c2 c3 c4 c5 c6 c7 c8 c9 c10 : Value} (h : w.heap[g]? = some (.cells #[c0, c1, c2, c3, c4, c5, c6, c7, c8, c9, c10] t (0, 0))) : w.cell? ⟨g, 0, none⟩ = some c0 ∧ w.frozen? ⟨g, 0, none⟩ = false ∧ w.cell? ⟨g, 1, none⟩ = some c1 ∧ w.frozen? ⟨g, 1, none⟩ = false ∧ w.cell? ⟨g, 2, none⟩ = some c2 ∧ w.frozen? ⟨g, 2, none⟩ = false ∧ w.cell? ⟨g, 3, none⟩ = some c3 ∧ w.frozen? ⟨g, 3, none⟩ = false ∧ w.cell? ⟨g, 4, none⟩ = some c4 ∧ w.frozen? ⟨g, 4, none⟩ = false ∧ w.cell? ⟨g, 5, none⟩ = some c5 ∧ w.frozen? ⟨g, 5, none⟩ = false ∧ w.cell? ⟨g, 6, none⟩ = some c6 ∧ w.frozen? ⟨g, 6, none⟩ = false ∧ w.cell? ⟨g, 7, none⟩ = some c7 ∧ w.frozen? ⟨g, 7, none⟩ = false ∧ w.cell? ⟨g, 8, none⟩ = some c8 ∧ w.frozen? ⟨g, 8, none⟩ = false ∧ w.cell? ⟨g, 9, none⟩ = some c9 ∧ w.frozen? ⟨g, 9, none⟩ = false ∧ w.cell? ⟨g, 10, none⟩ = some c10 ∧ w.frozen? ⟨g, 10, none⟩ = false := ⟨(blk_cell h 0).trans rfl, blk_frozen h 0, (blk_cell h 1).trans rfl, blk_frozen h 1, (blk_cell h 2).trans rfl, blk_frozen h 2, (blk_cell h 3).trans rfl, blk_frozen h 3, (blk_cell h 4).trans rfl, blk_frozen h 4, (blk_cell h 5).trans rfl, blk_frozen h 5, (blk_cell h 6).trans rfl, blk_frozen h 6, (blk_cell h 7).trans rfl, blk_frozen h 7, (blk_cell h 8).trans rfl, blk_frozen h 8, (blk_cell h 9).trans rfl, blk_frozen h 9, (blk_cell h 10).trans rfl, blk_frozen h 10⟩
end Go.Proofs.Ytfomnmdjbdohgaa.P
