/- Laws of maps, of rows and of ranges over a function that the functions of ways are walked with: an iterator that turns one block of its own (a captured variable), a loop over it, a box that a loop collects in. -/
import Derived.Test.YtkcphjdjhlikhaaHRows
import Derived.Test.YtkcphjdjhlikhaaWNEv
import Derived.Laws.OwnMore
import Derived.Maps.OwnSet
import Derived.Maps.Own
import Derived.Maps.OwnIn
import Derived.Maps.AppendAt
import Derived.RangeFuncNested
import Derived.RangeFuncBound
import Derived.RangeFuncCalls
import Derived.RangeFuncLeaves
import Derived.RangeFuncBox
import Derived.Shelf.Abstract
import Derived.OwnWalkIn
import Derived.TacticsInMore
import Derived.LoopNIn
import Derived.LoopIn
namespace Go.Proofs.Ytkcphjdjhlikhaa.P
open Go.RowKit Go.Proofs.Ytkcphjdjhlikhaa.HRows Go.Proofs.YtkcphjdjhlikhaaW.PrintWords Go.Proofs.YtkcphjdjhlikhaaW.PrintLast Go.Proofs.YtkcphjdjhlikhaaW.PrintMore
set_option linter.unusedVariables false
set_option linter.unusedSimpArgs false
/-- What a round of a loop over an iterator leaves as it was: all but its own blocks. -/
structure KpB (own : Nat → Prop) (W W' : World) : Prop where
  os : W'.os = W.os
  tape : W'.tape = W.tape
  output : W'.output = W.output
  size : W.heap.size ≤ W'.heap.size
  block : ∀ k, k < W.heap.size → ¬ own k → W'.heap[k]? = W.heap[k]?
theorem KpB.refl (own : Nat → Prop) (W : World) : KpB own W W := ⟨rfl, rfl, rfl, Nat.le_refl _, fun _ _ _ => rfl⟩
theorem KpB.trans {own own' : Nat → Prop} {A B C : World} (h : KpB own A B) (k : KpB own' B C) (hoo : ∀ i, own' i → own i) : KpB own A C := ⟨k.os.trans h.os, k.tape.trans h.tape, k.output.trans h.output, Nat.le_trans h.size k.size, fun i hi hl => (k.block i (Nat.lt_of_lt_of_le hi h.size) (fun h' => hl (hoo i h'))).trans (h.block i hi hl)⟩
theorem KpB.put {own : Nat → Prop} (W : World) (l : Nat) (o : Obj) (h : own l) : KpB own W (W.putObj l o) := ⟨rfl, rfl, rfl, by simp [World.putObj], fun k _ hn => World.putObj_heap_other (fun e => hn (e ▸ h))⟩
theorem KpB.wide {own own' : Nat → Prop} {A B : World} (h : KpB own A B) (hoo : ∀ i, own i → own' i) : KpB own' A B := ⟨h.os, h.tape, h.output, h.size, fun i hi hl => h.block i hi (fun h' => hl (hoo i h'))⟩
/-- All of fr but block b as it was. -/
structure Grb (fr : Nat → Prop) (b : Nat) (W W' : World) : Prop where
  os : W'.os = W.os
  tape : W'.tape = W.tape
  output : W'.output = W.output
  size : W.heap.size ≤ W'.heap.size
  block : ∀ k, fr k → k < W.heap.size → k ≠ b → W'.heap[k]? = W.heap[k]?
theorem KpB.grown {own : Nat → Prop} {w0 A B : World} {fr : Nat → Prop} {b : Nat} (h : Grb fr b w0 A) (k : KpB own A B) (hown : ∀ i, own i → ¬ fr i) : Grb fr b w0 B := ⟨k.os.trans h.os, k.tape.trans h.tape, k.output.trans h.output, Nat.le_trans h.size k.size, fun i h0 hi hr => (k.block i (Nat.lt_of_lt_of_le hi h.size) (fun ho => hown i ho h0)).trans (h.block i h0 hi hr)⟩
theorem Grb.keep {w0 A B : World} {fr : Nat → Prop} {b : Nat} (h : Grb fr b w0 A) (k : A.grownBy B (some b)) : Grb fr b w0 B := ⟨k.os.trans h.os, k.tape.trans h.tape, k.output.trans h.output, Nat.le_trans h.size k.size, fun i h0 hi hr => (k.block i (Nat.lt_of_lt_of_le hi h.size) (fun e => hr (Option.some.inj e))).trans (h.block i h0 hi hr)⟩
theorem Grb.of {w0 A : World} {fr : Nat → Prop} {b : Nat} (h : Below w0.heap.size w0 A) : Grb fr b w0 A := ⟨h.os, h.tape, h.output, h.size, fun i _ hi _ => h.block i hi⟩
theorem Grb.grown {w0 A : World} {fr : Nat → Prop} {b : Nat} (h : Grb fr b w0 A) (h0 : ∀ k, k < w0.heap.size → fr k) : w0.grownBy A (some b) := ⟨h.os, h.tape, h.output, h.size, fun i hi hr => h.block i (h0 i hi) hi (fun e => hr (congrArg some e))⟩
theorem grownBy_keep {w0 A B : World} {r : Option Nat} (h : w0.grownBy A r) (k : A.grownBy B r) : w0.grownBy B r := ⟨k.os.trans h.os, k.tape.trans h.tape, k.output.trans h.output, Nat.le_trans h.size k.size, fun i hi hr => (k.block i (Nat.lt_of_lt_of_le hi h.size) hr).trans (h.block i hi hr)⟩
theorem grownBy_below {w0 A : World} (h : Below w0.heap.size w0 A) (r : Option Nat) : w0.grownBy A r := ⟨h.os, h.tape, h.output, h.size, fun i hi _ => h.block i hi⟩
/-- What a loop's body holds: it rests on its own blocks alone. -/
structure OwnI (fr : Nat → Prop) (ok : Nat → Prop) (b : Nat) (own : World → Nat → Prop) (I : List Int → World → Prop) : Prop where
  step : ∀ s X Y, I s X → X.heap.size ≤ Y.heap.size → (∀ k, own X k → Y.heap[k]? = X.heap[k]?) → I s Y ∧ ∀ k, own Y k → own X k
  own : ∀ s X k, I s X → own X k → ¬ fr k ∧ k < X.heap.size ∧ ¬ ok k ∧ k ≠ b
theorem OwnI.grown {fr ok : Nat → Prop} {b : Nat} {own : World → Nat → Prop} {I : List Int → World → Prop} (h : OwnI fr ok b own I) {s : List Int} {X Y : World} (hi : I s X) (hg : X.grownBy Y (some b)) : I s Y ∧ ∀ k, own Y k → own X k :=
  h.step s X Y hi hg.size (fun k hk => hg.block k (h.own s X k hi hk).2.1 (fun e => (h.own s X k hi hk).2.2.2 (Option.some.inj e)))
/-- An iterator of numbers that turns one block b of its own (a captured variable) and lays new blocks. -/
def SeqB (F : Fence) (n : Nat) (P : Program) (g : Nat) (lb : Array Value) (ok : Nat → Prop) (S : List Int → Prop) (N b : Nat) (fr : Nat → Prop) (w0 : World) : Prop :=
  ∀ (l : Nat) (J : List Int → World → Prop) (own : World → Nat → Prop) (W : World), Below w0.heap.size w0 W → OwnI fr ok b own J →
    (∀ pre x W1, J pre W1 → Grb fr b w0 W1 → pre.length < N → YieldAt F (n - 1) P l #[.int .i64 x] W1 fun e W' => e = .returned (.bool true) ∧ J (pre ++ [x]) W' ∧ KpB (own W1) W1 W') → J [] W →
    CallsIn F n P g (#[.func (.yield l) #[] #[]] ++ lb) W fun e W' => (∃ v, e = .returned v) ∧ ∃ xs, S xs ∧ J xs W' ∧ Grb fr b w0 W'
/-- How a round's body is left: off its end. -/
def EndB (own : Nat → Prop) (I : List Int → World → Prop) (xs : List Int) (W : World) : Exit → Act → World → Prop
  | .normal, _, W' => KpB own W W' ∧ I xs W'
  | _, _, _ => False
/-- A loop over such an iterator, whose body is left off its end alone. -/
theorem range_B {P : Program} {F : Fence} {n : Nat} {g : Operand} {ps : Array Tmp} {assign body : Code} {Q : Exit → Act → World → Prop} {a : Act} {w : World} (hro : F.round = none) (h1 : 1 ≤ n) {gf : Nat} {lb : Array Value} (hg : a.eval g = .func (.func gf) #[] lb) (hFg : F.fn gf) (eg : ∀ args w, (callFunc gf args).run P w = .ok (.enter gf args) w)
    {ok : Nat → Prop} {S : List Int → Prop} {N b : Nat} {fr : Nat → Prop} {w0 : World} (hseq : SeqB F (n - 1) P gf lb ok S N b fr w0) (hB0 : ∀ k, fr k → k < w0.heap.size) (hb0 : Below w0.heap.size w0 w) (hbw : b < w.heap.size) (hok : ∀ k, ok k → k < w.heap.size) (hps : ps.size = 1)
    (I : List Int → World → Prop) (own : World → Nat → Prop) (hI : OwnI fr ok b own I) (hcell : ∀ s X k, I s X → own X k → ∃ cs t p, X.heap[k]? = some (.cells cs t p)) (h0 : I [] w) (a1 : Int → Act)
    (hassign : ∀ (l : Nat) (x : Int) (W : World) (K : Act → World → Prop), K (a1 x) W → assign.wpIn (F.inRound l) (n - 1 - 1) P (Exit.then K (fun _ _ _ => False)) { tmps := (ps.zip #[Value.int .i64 x]).foldl (fun t (p, v) => t.setIfInBounds p v) a.tmps, defers := [] } W)
    (hbody : ∀ (l : Nat) (pre : List Int) (x : Int) (W : World), I pre W → Grb fr b w0 W → pre.length < N → w.heap.size + 2 ≤ W.heap.size → body.wpIn (F.inRound l) (n - 1 - 1) P (EndB (own W) I (pre ++ [x]) W) (a1 x) W)
    (hdone : ∀ (D : Nat) (xs : List Int) (W : World), w.heap.size ≤ D → S xs → I xs W → Grb fr b w0 W → W.heap[D]? = some (.deferred (some [])) → Q .normal { a with defers := { target := .collected D, args := #[] } :: a.defers } W) :
    (Code.rangeFunc g ps assign body).wpIn F n P Q a w := by
  refine wpIn_rangeFunc fun fn hfn => ?_
  rw [hro]
  obtain ⟨lp, hlp⟩ : ∃ lp : LoopState → Loop, lp = fun st => { state := st, pending := none, fn := fn, tmps := a.tmps, params := ps, assign := assign, body := body, defers := w.heap.size } := ⟨_, rfl⟩
  obtain ⟨W1, hW1⟩ : ∃ W1, (w.alloc (.deferred (some []))).alloc (.loop (lp .ready)) = W1 := ⟨_, rfl⟩
  obtain ⟨r, hr⟩ : ∃ r, r = w.heap.size + 1 := ⟨_, rfl⟩
  have hz1 : W1.heap.size = w.heap.size + 2 := by rw [← hW1, World.size_alloc, World.size_alloc]
  have hrec : W1.heap[r]? = some (.loop (lp .ready)) := by
    rw [← hW1, hr]
    have := World.alloc_heap_new (w.alloc (.deferred (some []))) (.loop (lp .ready))
    rwa [World.size_alloc] at this
  have hdef : W1.heap[w.heap.size]? = some (.deferred (some [])) := by
    rw [← hW1]
    exact (Below.heap_alloc _ _ _ (by simp)).trans (World.alloc_heap_new w _)
  have hww : Below w.heap.size w W1 := by
    rw [← hW1]
    exact ((Below.refl _ w).alloc (Nat.le_refl _) _).alloc (by simp) _
  have hI1 : I [] W1 := (hI.step [] w W1 h0 hww.size (fun k hk => hww.block k (hI.own [] w k h0 hk).2.1)).1
  have hB1 : Below w0.heap.size w0 W1 := hb0.trans (hww.mono hb0.size)
  have hnl : ∀ (s : List Int) (X : World) (k : Nat) (lo : Loop), I s X → X.heap[k]? = some (.loop lo) → ¬ own X k := fun s X k lo hs hk h => by
    obtain ⟨cs, t, p, e⟩ := hcell s X k hs h
    rw [hk] at e
    cases e
  have hnd : ∀ (s : List Int) (X : World) (k : Nat) (d : Option (List Deferred)), I s X → X.heap[k]? = some (.deferred d) → ¬ own X k := fun s X k d hs hk h => by
    obtain ⟨cs, t, p, e⟩ := hcell s X k hs h
    rw [hk] at e
    cases e
  refine ⟨r, [{ target := .collected w.heap.size, args := #[] }], W1, { target := .fn (.func gf) lb, args := #[.func (.yield r) #[] #[]] }, W1, gf, #[.func (.yield r) #[] #[]] ++ lb, W1, ?_, ?_, ?_, ?_, fun _ => h1, ?_⟩
  · rw [← hW1, hlp, hr]
    exact run_enterLoop_outer _ _ _ _ _
  · simp only [resolve, hg]
    simp [go_sem]
  · intro f' hf'
    simp [Target.leads] at hf'
    subst hf'
    exact hFg
  · simp [invoke, go_sem, eg]
  have hput : ∀ (X : World) (s : List Int) (lo : Loop), X.heap[r]? = some (.loop lo) → I s X → ∀ o, I s (X.putObj r o) ∧ ∀ k, own (X.putObj r o) k → own X k := fun X s lo hl hi o => hI.step s X _ hi (by simp [World.putObj]) (fun k hk => World.putObj_heap_other (fun e => hnl s X r lo hi hl (e ▸ hk)))
  have hgput : ∀ (X : World), Grb fr b w0 X → ∀ o, Grb fr b w0 (X.putObj r o) := fun X hg o => (KpB.put (own := fun i => i = r) X r o rfl).grown hg (fun i hi hf => by have := hb0.size; have := hB0 i hf; omega)
  refine (hseq r (fun s X => I s X ∧ X.heap[r]? = some (.loop (lp .ready)) ∧ X.heap[w.heap.size]? = some (.deferred (some []))) (fun X k => own X k ∨ k = r ∨ k = w.heap.size) W1 hB1 ⟨fun s X Y hs hsz hbl => ?_, fun s X k hs hk => ?_⟩ ?_ ⟨hI1, hrec, hdef⟩).mono ?_
  · obtain ⟨i1, i2, i3⟩ := hs
    have := hI.step s X Y i1 hsz (fun k hk => hbl k (Or.inl hk))
    exact ⟨⟨this.1, (hbl r (Or.inr (Or.inl rfl))).trans i2, (hbl _ (Or.inr (Or.inr rfl))).trans i3⟩, fun k hk => hk.imp (this.2 k) id⟩
  · obtain ⟨i1, i2, i3⟩ := hs
    have hl2 := (Array.getElem?_eq_some_iff.1 i2).1
    have hl3 := (Array.getElem?_eq_some_iff.1 i3).1
    have hs0 := hb0.size
    rcases hk with hk | rfl | rfl
    · exact hI.own s X k i1 hk
    · exact ⟨fun h => by have := hB0 _ h; omega, hl2, fun h => by have := hok _ h; omega, by omega⟩
    · exact ⟨fun h => by have := hB0 _ h; omega, hl3, fun h => by have := hok _ h; omega, by omega⟩
  · rintro pre x X ⟨i1, i2, i3⟩ hgX hlen
    have hlt := (Array.getElem?_eq_some_iff.1 i2).1
    have hy := run_yield (P := P) (args := #[Value.int .i64 x]) i2 (by rw [hlp]; exact hps.symm)
    rw [hlp] at hy
    refine ⟨fn, _, assign, body, hy, roundIn_of_wpIn hfn (hassign _ x X _ ⟨_, run_beginRound i2 (by rw [hlp]), ?_⟩)⟩
    obtain ⟨X2, hX2⟩ : ∃ X2, X.putObj r (.loop { lp .ready with state := .busy }) = X2 := ⟨_, rfl⟩
    rw [hX2]
    have j2 : X2.heap[r]? = some (.loop (lp .busy)) := by
      rw [← hX2, hlp]
      exact World.putObj_heap_same hlt
    have j3 : X2.heap[w.heap.size]? = some (.deferred (some [])) := by rw [← hX2]; exact (World.putObj_heap_other (by omega)).trans i3
    have j1 : I pre X2 ∧ ∀ k, own X2 k → own X k := by rw [← hX2]; exact hput X pre _ i2 i1 _
    have jk : KpB (fun k => own X k ∨ k = r ∨ k = w.heap.size) X X2 := by rw [← hX2]; exact KpB.put X r _ (Or.inr (Or.inl rfl))
    have jg : Grb fr b w0 X2 := by rw [← hX2]; exact hgput X hgX _
    refine wpIn_mono (hbody r pre x X2 j1.1 jg hlen (by have := jk.size; omega)) ?_
    rintro e a3 X3 hp
    cases e with
    | normal =>
      obtain ⟨hkp, hi3⟩ := hp
      have l3 : X3.heap[r]? = some (.loop (lp .busy)) := (hkp.block r (Array.getElem?_eq_some_iff.1 j2).1 (hnl pre X2 r _ j1.1 j2)).trans j2
      have d3 : X3.heap[w.heap.size]? = some (.deferred (some [])) := (hkp.block _ (Array.getElem?_eq_some_iff.1 j3).1 (hnd pre X2 _ _ j1.1 j3)).trans j3
      have hend := run_endRound (P := P) none l3
      refine ⟨_, _, hend, rfl, ⟨(hput X3 _ _ l3 hi3 _).1, ?_, (World.putObj_heap_other (by omega)).trans d3⟩, (jk.trans (hkp.wide (fun k hk => Or.inl (j1.2 k hk))) (fun _ h => h)).trans (KpB.put (own := fun k => own X k ∨ k = r ∨ k = w.heap.size) X3 r _ (Or.inr (Or.inl rfl))) (fun _ h => h)⟩
      rw [hlp]
      exact World.putObj_heap_same (Array.getElem?_eq_some_iff.1 l3).1
    | ret => exact hp.elim
    | exit _ => exact hp.elim
    | goto _ => exact hp.elim
    | panic _ => exact hp.elim
    | outgrown => exact hp.elim
  · rintro e X ⟨⟨v, rfl⟩, xs, hS, ⟨i1, i2, i3⟩, hgX⟩
    have hend := run_endLoop (P := P) i2 (by rw [hlp]; simp)
    refine ⟨none, _, by rw [hlp] at hend; exact hend, hdone _ xs _ (Nat.le_refl _) hS (hput X xs _ i2 i1 _).1 (hgput X hgX _) ((World.putObj_heap_other (by omega)).trans i3)⟩
theorem least_ex {P : Nat → Prop} (h : ∃ f, P f) : ∃ m, P m ∧ ∀ k, P k → m ≤ k := by
  obtain ⟨f, hf⟩ := h
  induction f using Nat.strongRecOn with
  | _ f ih =>
    by_cases hl : ∃ k, k < f ∧ P k
    · obtain ⟨k, hk, hp⟩ := hl
      exact ih k hk hp
    · exact ⟨f, hf, fun k hk => Nat.le_of_not_lt (fun h => hl ⟨k, h, hk⟩)⟩
theorem cell_below_ {w w' : World} {p : Addr} {v : Value} (h : w.cell? p = some v) (hb : Below w.heap.size w w') : w'.cell? p = some v := (hb.cell (World.block_lt_of_cell? w _ h)).trans h
theorem cell_alloc_ {w : World} {p : Addr} {v : Value} (h : w.cell? p = some v) (o : Obj) : (w.alloc o).cell? p = some v := (World.cell?_alloc_lt _ _ _ (World.block_lt_of_cell? w _ h)).trans h
theorem lay_ {P : Program} {ops : Array Oper} {Q : Exit → Act → World → Prop} {oi : Oper} {N : Option Tmp} {a : Act} {w : World} {K : Act → World → Prop} (t : TypeId) (cs : Array Value) (h : K (a.put N (.pointer (some ⟨w.heap.size, 0, none⟩))) (w.alloc (.cells cs t (0, 0)))) (hrun : (execOp a.eval oi).run P w = .ok (.value (.pointer (some ⟨w.heap.size, 0, none⟩))) (w.alloc (.cells cs t (0, 0)))) (hw : Region.wanted oi (yielded ops a.tmps) = true := by rfl) (hN : oi.dst = N := by rfl) : if Region.wanted oi (yielded ops a.tmps) = true then Oper.wp P oi a w K Q else K (a.put N undef) w := by
  rw [if_pos hw]
  subst hN
  unfold Oper.wp
  rw [hrun]
  exact h
/-- A variable's box that holds a slice of whole numbers of the call's own (what a collecting loop keeps). -/
def BoxI (base Bs : Nat) (u0 : Option Nat) (z0 : Nat) (s : List Int) (X : World) : Prop := ∃ v, Boxed X Bs 25 v ∧ X.ownsRow base 3 1 v s.length (s.map fun x => Value.int .i64 x) ∧ (v.ownBlock = u0 ∨ ∃ k, v.ownBlock = some k ∧ z0 ≤ k)
def BoxO (Bs : Nat) (X : World) (k : Nat) : Prop := k = Bs ∨ ∃ v, Boxed X Bs 25 v ∧ v.ownBlock = some k
theorem own_cells {X : World} {base : Nat} {v : Value} {n : Nat} {xs : List Value} {k : Nat} (h : X.ownsRow base 3 1 v n xs) (hk : v.ownBlock = some k) : base ≤ k ∧ k < X.heap.size ∧ ∃ cs, X.heap[k]? = some (.cells cs 3 (0, 0)) := by
  rcases h.2 with ⟨rfl, _⟩ | ⟨g, cap, cur, rfl, hb, hg, _⟩
  · cases hk
  · obtain rfl : g = k := Option.some.inj hk
    exact ⟨hb, blk_lt hg, _, hg⟩
theorem own_same {X Y : World} {base : Nat} {v : Value} {n : Nat} {xs : List Value} (h : X.ownsRow base 3 1 v n xs) (hs : ∀ k, v.ownBlock = some k → Y.heap[k]? = X.heap[k]?) : Y.ownsRow base 3 1 v n xs := by
  refine ⟨h.1, ?_⟩
  rcases h.2 with h0 | ⟨g, cap, cur, rfl, hb, hg, hr⟩
  · exact Or.inl h0
  · exact Or.inr ⟨g, cap, cur, rfl, hb, (hs g rfl).trans hg, hr⟩
theorem BoxI.ownI {base Bs b z0 : Nat} {u0 : Option Nat} {fr ok : Nat → Prop} (p0 : List Int) (hfr : ∀ k, fr k → k < z0 ∧ k ≠ Bs ∧ some k ≠ u0) (hok : ∀ k, ok k → k < z0 ∧ k ≠ Bs ∧ some k ≠ u0) (hb : b < z0 ∧ b ≠ Bs ∧ some b ≠ u0) : OwnI fr ok b (BoxO Bs) (fun s X => BoxI base Bs u0 z0 (p0 ++ s) X) := by
  refine ⟨?_, ?_⟩
  · rintro s X Y ⟨v, hv, hr, hat⟩ hsz hsame
    have hv' : Boxed Y Bs 25 v := (hsame Bs (Or.inl rfl)).trans hv
    refine ⟨⟨v, hv', own_same hr (fun k hk => hsame k (Or.inr ⟨v, hv, hk⟩)), hat⟩, ?_⟩
    rintro k (rfl | ⟨v', hv2, hk⟩)
    · exact Or.inl rfl
    · have e := (show Y.heap[Bs]? = _ from hv').symm.trans hv2
      obtain rfl : v = v' := by simpa using e
      exact Or.inr ⟨v, hv, hk⟩
  · rintro s X k ⟨v, hv, hr, hat⟩ hk
    rcases hk with rfl | ⟨v', hv2, hk⟩
    · exact ⟨fun h => (hfr _ h).2.1 rfl, hv.lt, fun h => (hok _ h).2.1 rfl, fun e => hb.2.1 e.symm⟩
    · have e := (show X.heap[Bs]? = _ from hv).symm.trans hv2
      obtain rfl : v = v' := by simpa using e
      have h1 := own_cells hr hk
      refine ⟨fun h => ?_, h1.2.1, fun h => ?_, fun e => ?_⟩
      · rcases hat with h2 | ⟨k', h2, h3⟩
        · exact (hfr k h).2.2 (hk.symm.trans h2)
        · obtain rfl : k = k' := Option.some.inj (hk.symm.trans h2)
          have := (hfr k h).1
          omega
      · rcases hat with h2 | ⟨k', h2, h3⟩
        · exact (hok k h).2.2 (hk.symm.trans h2)
        · obtain rfl : k = k' := Option.some.inj (hk.symm.trans h2)
          have := (hok k h).1
          omega
      · subst e
        rcases hat with h2 | ⟨k', h2, h3⟩
        · exact hb.2.2 (hk.symm.trans h2)
        · obtain rfl : k = k' := Option.some.inj (hk.symm.trans h2)
          have := hb.1
          omega
theorem BoxI.cells {base Bs : Nat} {u0 : Option Nat} {z0 : Nat} {s : List Int} {X : World} (h : BoxI base Bs u0 z0 s X) {k : Nat} (hk : BoxO Bs X k) : ∃ cs t p, X.heap[k]? = some (.cells cs t p) := by
  obtain ⟨v, hv, hr, -⟩ := h
  rcases hk with rfl | ⟨v', hv2, hk⟩
  · exact ⟨_, _, _, hv⟩
  · have e := (show X.heap[Bs]? = _ from hv).symm.trans hv2
    obtain rfl : v = v' := by simpa using e
    obtain ⟨-, -, cs, hc⟩ := own_cells hr hk
    exact ⟨_, _, _, hc⟩
/-- out = append(out, x): what the round owes. -/
theorem BoxI.app {base Bs : Nat} {u0 : Option Nat} {z0 : Nat} {s : List Int} {x : Int} {W w1 : World} {v v' : Value} {tmp : Obj} (hat : v.ownBlock = u0 ∨ ∃ k, v.ownBlock = some k ∧ z0 ≤ k) (hz : z0 ≤ W.heap.size) (hat2 : v'.ownBlock = v.ownBlock ∨ v'.ownBlock = some (W.alloc tmp).heap.size) (hv : Boxed W Bs 25 v) (hr : W.ownsRow base 3 1 v s.length (s.map fun x => Value.int .i64 x)) (hown : w1.ownsRow base 3 1 v' (s.length + 1) ((s.map fun x => Value.int .i64 x) ++ [.int .i64 x])) (hg : (W.alloc tmp).grownBy w1 v.ownBlock) :
    Boxed w1 Bs 25 v ∧ KpB (BoxO Bs W) W (w1.setCell ⟨Bs, 0, none⟩ v') ∧ BoxI base Bs u0 z0 (s ++ [x]) (w1.setCell ⟨Bs, 0, none⟩ v') := by
  have hv1 : Boxed w1 Bs 25 v := (hv.alloc tmp).kept hg (hv.not_row (by decide) hr)
  refine ⟨hv1, ⟨hg.os, hg.tape, hg.output, ?_, ?_⟩, v', hv1.set v', ?_, ?_⟩
  · have := hg.size
    rw [World.size_alloc] at this
    show W.heap.size ≤ (w1.heap.modify Bs _).size
    rw [Array.size_modify]
    omega
  · intro k hk hn
    refine (Below.heap_setCell w1 ⟨Bs, 0, none⟩ v' k (fun e => hn (Or.inl e))).trans ((hg.block k (by rw [World.size_alloc]; omega) (fun e => hn (Or.inr ⟨v, hv, e.symm⟩))).trans (Below.heap_alloc W tmp k hk))
  · have := hown.kept (grownBy_setCell' w1 Bs v') (.inr (hv1.not_row (by decide) hown).symm)
    rw [List.length_append, List.map_append]
    exact this
  · rcases hat2 with e | e
    · rw [e]
      exact hat
    · exact Or.inr ⟨_, e, by rw [World.size_alloc]; omega⟩
def marks (Ds : List Nat) : List Deferred := Ds.map fun D => { target := .collected D, args := #[] }
theorem leaves_marks {P : Program} {F : Fence} {n : Nat} {fn : Func} {tmps : Array Value} {R : Ending → World → Prop} {t : Tmp} (hres : fn.results = #[.tmp t]) : ∀ (Ds : List Nat) (w : World), Ds.Nodup → (∀ D, D ∈ Ds → w.heap[D]? = some (.deferred (some []))) → (∀ w', KpB (fun k => k ∈ Ds) w w' → R (.returned (tmps.getD t undef)) w') → LeavesInM F n P fn tmps R (marks Ds) .returning w
  | [], w, _, _, hR => ⟨_, results_tmp hres tmps P w, hR w (KpB.refl _ w)⟩
  | D :: Ds, w, hn, hd, hR => by
    obtain ⟨h1, h2⟩ := List.nodup_cons.1 hn
    refine ⟨by simp, .inl ⟨D, _, rfl, run_takeDeferred (hd D (by simp)), ?_⟩⟩
    refine leaves_marks hres Ds _ h2 (fun E hE => (World.putObj_heap_other (fun e => h1 (by subst e; exact hE))).trans (hd E (by simp [hE]))) (fun w' hk => hR w' ?_)
    exact ((KpB.put (own := fun k => k ∈ D :: Ds) w D _ (by simp)).trans (hk.wide (own' := fun k => k ∈ D :: Ds) (fun i hi => by simp [hi])) (fun _ h => h))
theorem hv7_ {W W' : World} {B : Nat} {t : TypeId} {v : Value} {row : Option Nat} (h : Boxed W B t v) (hg : W.grownBy W' row) (hne : some B ≠ row) : Boxed W' B t v := h.kept hg hne
end Go.Proofs.Ytkcphjdjhlikhaa.P
