/- For each Go function a Lean function, and the proof that a call comes to what it tells: made by program out of the translation (the kit's print, with texts by hand put in). No condition. -/
import Derived.Test.YtkcphjdjhlikhaaSq
import Derived.Test.YtkcphjdjhlikhaaPx0
import Derived.Test.YtkcphjdjhlikhaaPx2
import Derived.Test.YtkcphjdjhlikhaaPx3
import Derived.Test.YtkcphjdjhlikhaaPx6
import Derived.Test.YtkcphjdjhlikhaaPx8
namespace Go.Proofs.Ytkcphjdjhlikhaa.P
open Go.RowKit Go.Proofs.Ytkcphjdjhlikhaa.HRows Go.Proofs.YtkcphjdjhlikhaaW.PrintWords Go.Proofs.YtkcphjdjhlikhaaW.PrintLast Go.Proofs.YtkcphjdjhlikhaaW.PrintMore
attribute [local go_sem] max2_int min2_int max_two min_two max_three min_three max_four min_four   -- for this text's walks alone
set_option linter.unusedVariables false
set_option linter.unusedSimpArgs false

/-! ### spt_far: function 28, by hand (spt.far.lean.tpl) -/
/-! #### a set of numbers, as a map of the call's own -/
/-- The map at b holds true for the numbers ds. -/
def DoneMap (w : World) (b : Nat) (ds : List Int) : Prop := ∃ D : DataW Unit, w.ownsMap Try.prog 3 (plainElem Try.prog 4) b ds.length D ∧ Maps.IsMap D ∧ ∀ x, D.atKey (.int .i64 x) (.lit (.bool false)) = .lit (.bool (ds.contains x))
theorem plainElem_bool_inv {P : Program} {e : TypeId} (he : P.underlying e = some .bool) {v : Value} {z : DataW Unit × List MemPlace} (h : plainElem P e v = some z) : ∃ a, v = .bool a ∧ z = (.lit (.bool a), []) := by
 unfold plainElem at h
 rw [he] at h
 cases v <;> simp at h
 exact ⟨_, rfl, h.symm⟩
theorem DoneMap.made (w : World) : DoneMap (w.alloc (.map #[] 0)) w.heap.size [] := ⟨.map [], World.ownsMap_made w _ _ _, Maps.isMap_empty, fun x => rfl⟩
theorem DoneMap.kept {w w' : World} {b : Nat} {ds : List Int} {row : Option Nat} (h : DoneMap w b ds) (hg : w.grownBy w' row) (hne : some b ≠ row) : DoneMap w' b ds := by
 obtain ⟨D, h1, h2, h3⟩ := h
 exact ⟨D, h1.kept hg hne, h2, h3⟩
theorem DoneMap.below {w w' : World} {b : Nat} {ds : List Int} (h : DoneMap w b ds) (hb : Below w.heap.size w w') : DoneMap w' b ds := h.kept (row := none) ⟨hb.os, hb.tape, hb.output, hb.size, fun k hk _ => hb.block k hk⟩ (by simp)
theorem DoneMap.lt {w : World} {b : Nat} {ds : List Int} (h : DoneMap w b ds) : b < w.heap.size := by
 obtain ⟨D, h1, _⟩ := h
 exact h1.lt
theorem done_look {w : World} {ops : Array Oper} {rest : List Oper} {o : Oper} {a : Act} {Q : Exit → Act → World → Prop} (hg : o.guard = none) (m x : Operand) (hop : o.op = Op.lookup 77 m x false) (b : Nat) (ds : List Int)
  (hm : a.eval m = .map (some b)) (hown : DoneMap w b ds) (key : Int) (hx : a.eval x = .int .i64 key) (hwf : (Lit.int .i64 key).wf = true) (hK : wpList Try.prog ops Q rest (a.put o.dst (.bool (ds.contains key))) w) : wpList Try.prog ops Q (o :: rest) a w := by
 obtain ⟨D, h1, _, h3⟩ := hown
 refine wpList_plain hg fun K' hK' => ?_
 obtain ⟨v, ps, hrun, hv⟩ := h1.lookup (Maps.int_keyed Try.underlying3) Try.underlying77 (z := .bool false) (by go_simp) (plainElem_bool Try.underlying4 false) (Maps.keyOf_int_mk Try.underlying3 hwf)
 obtain ⟨c, rfl, hc⟩ := plainElem_bool_inv Try.underlying4 hv
 have hc1 := congrArg Prod.fst hc
 simp only [h3] at hc1
 have hc2 : c = ds.contains key := by simpa using hc1.symm
 unfold Oper.wp
 simp [execOp, hop, hm, hx, hrun, Result.andThen]
 exact hK' _ _ (by rw [hc2]; exact hK)
theorem done_put {w : World} {ops : Array Oper} {rest : List Oper} {o : Oper} {a : Act} {Q : Exit → Act → World → Prop} (hg : o.guard = none) (m x v : Operand) (hop : o.op = Op.mapUpdate 77 m x v) (b : Nat) (ds : List Int) (hlen : ds.length < 1000000)
  (hm : a.eval m = .map (some b)) (hown : DoneMap w b ds) (key : Int) (hx : a.eval x = .int .i64 key) (hv : a.eval v = .bool true) (hwf : (Lit.int .i64 key).wf = true)
  (hK : ∀ w', DoneMap w' b (ds ++ [key]) → w.grownBy w' (some b) → wpList Try.prog ops Q rest (a.put o.dst undef) w') : wpList Try.prog ops Q (o :: rest) a w := by
 obtain ⟨D, h1, h2, h3⟩ := hown
 refine wpList_mapUpdate_own w hg m x v 77 hop 3 4 (Maps.int_keyed Try.underlying3) Try.underlying77 (plainElem Try.prog 4) b ds.length D hm h1 (by simp only [maxLen]; omega) _ _ (.int .i64 key) hx hv (Maps.keyOf_int_mk Try.underlying3 hwf) _ [] (plainElem_bool Try.underlying4 true) ?_
 intro w' h4 h5
 refine hK w' ⟨_, by rw [List.length_append]; exact h4, h2.put _ _, fun y => ?_⟩ h5
 by_cases e : y = key
 ·subst e
  rw [Maps.atKey_put_same (k := Lit.int .i64 y) h2 True.intro]
  simp
 ·rw [Maps.atKey_put_other (by intro h; injection h with _ h; exact e h), h3]
  simp [e]
/-! #### how far all is: what the function does -/
def farStart (k : Nat) (n : Int) : List Int → List (S76) → Option (List (S76))
 | [], h => some h
 | x :: t, h => if 0 ≤ x ∧ x < n then (heap_Push.f k h 0 x).bind fun h2 => farStart k n t h2 else farStart k n t h
def farHops (k : Nat) (L : List (S33)) (key : Int) (ds : List Int) : List (S59) → List (S76) → Option (List (S76))
 | [], h => some h
 | o :: t, h => if (Lit.int .i64 o.f1).wf = true then (if ds.contains o.f1 = true then farHops k L key ds t h else if 0 ≤ o.f0 ∧ o.f0 < (L.length : Int) then (heap_Push.f k h (wrap64 (key + (rd_T33 L o.f0).f2)) o.f1).bind fun h2 => farHops k L key ds t h2 else none) else none
def farLoop (k : Nat) (n : Int) (L : List (S33)) : Nat → List (S76) → List Int → List Int → Option (List Int)
 | 0, _, _, _ => none
 | g + 1, h, ds, d => if h.length = 0 then some d else (heap_Pop.f k h).bind fun p => if (Lit.int .i64 p.2.2.1).wf = true then (if ds.contains p.2.2.1 = true then farLoop k n L g p.1 ds d else if (0 ≤ p.2.2.1 ∧ p.2.2.1 < (d.length : Int)) ∧ ds.length < 1000 then (graph_Next.f k n L p.2.2.1).bind fun hops => if hops.length ≤ 1000000 then (farHops k L p.2.1 (ds ++ [p.2.2.1]) hops p.1).bind fun h2 => farLoop k n L g h2 (ds ++ [p.2.2.1]) (d.set p.2.2.1.toNat p.2.1) else none else none) else none
def spt_far.f (k : Nat) (a0_0 : Int) (l0_1 : List (S33)) (l1 : List Int) : Option (List Int) := if l1.length ≤ 1000000 ∧ a0_0 ≤ 1000 then (spt_blank.f a0_0 l0_1).bind fun b => if b.1.length ≤ 1000 then (farStart k a0_0 l1 []).bind fun h => farLoop k a0_0 l0_1 k h [] b.1 else none else none
theorem farStart_mono (k : Nat) (n : Int) : ∀ l h, LeO (farStart k n l h) (farStart (k + 1) n l h)
 | [], _ => LeO.refl _
 | x :: t, h => by
  unfold farStart
  exact LeO.ite (LeO.bind (heap_Push.mono _ _ _ _) (fun h2 => farStart_mono k n t h2)) (farStart_mono k n t h)
theorem farHops_mono (k : Nat) (L : List (S33)) (key : Int) (ds : List Int) : ∀ l h, LeO (farHops k L key ds l h) (farHops (k + 1) L key ds l h)
 | [], _ => LeO.refl _
 | o :: t, h => by
  unfold farHops
  exact LeO.ite (LeO.ite (farHops_mono k L key ds t h) (LeO.ite (LeO.bind (heap_Push.mono _ _ _ _) (fun h2 => farHops_mono k L key ds t h2)) (LeO.refl _))) (LeO.refl _)
theorem farLoop_mono (k : Nat) (n : Int) (L : List (S33)) : ∀ g h ds d, LeO (farLoop k n L g h ds d) (farLoop (k + 1) n L (g + 1) h ds d)
 | 0, _, _, _ => fun r hr => by simp [farLoop] at hr
 | g + 1, h, ds, d => by
  unfold farLoop
  exact LeO.ite (LeO.refl _) (LeO.bind (heap_Pop.mono _ _) (fun p => LeO.ite (LeO.ite (farLoop_mono k n L g _ _ _) (LeO.ite (LeO.bind (graph_Next.mono _ _ _ _) (fun hops => LeO.ite (LeO.bind (farHops_mono k L _ _ _ _) (fun h2 => farLoop_mono k n L g _ _ _)) (LeO.refl _))) (LeO.refl _))) (LeO.refl _)))
theorem spt_far.mono : ∀ a0 a1 a2 k, LeO (spt_far.f k a0 a1 a2) (spt_far.f (k + 1) a0 a1 a2) := by
 intro a0 a1 a2 k
 unfold spt_far.f
 exact LeO.ite (LeO.bind (LeO.refl _) (fun b => LeO.ite (LeO.bind (farStart_mono k _ _ _) (fun h => farLoop_mono k _ _ _ _ _ _)) (LeO.refl _))) (LeO.refl _)
theorem DoneMap.map {w : World} {b : Nat} {ds : List Int} (h : DoneMap w b ds) : ∃ es clock, w.heap[b]? = some (.map es clock) := by
 obtain ⟨D, ⟨es, clock, hb, _⟩, _⟩ := h
 exact ⟨es, clock, hb⟩
theorem DoneMap.ne {w : World} {b k : Nat} {ds : List Int} {cells : Array Value} {t : TypeId} {fr : Nat × Nat} (h : DoneMap w b ds) (hk : w.heap[k]? = some (.cells cells t fr)) : k ≠ b := by
 intro e
 subst e
 obtain ⟨es, clock, hb⟩ := h.map
 rw [hk] at hb
 cases hb
/-- What the walk of 'far' keeps. -/
structure FarRel (w : World) (g2 gM : Nat) (n : Int) (A : Option Addr) (c : Nat) (L : List (S33)) (v5 : Value) (d : List Int) (v6 : Value) (h : List (S76)) (ds : List Int) (wr : World) : Prop where
 hB : Below w.heap.size w wr
 h2 : wr.heap[g2]? = some (.cells #[.int .i64 n, .slice A L.length c] 24 (0, 0))
 hd : Kd.R (Kd.int .i64) 3 wr w.heap.size (fun _ => True) v5 d
 hh : Kd.R k76 76 wr w.heap.size (fun _ => True) v6 h
 hm : DoneMap wr gM ds
 hg : w.heap.size ≤ g2 ∧ w.heap.size ≤ gM
section
variable {w : World} {g2 gM : Nat} {n : Int} {A : Option Addr} {c : Nat} {L : List (S33)} {v5 : Value} {d : List Int} {v6 : Value} {h : List (S76)} {ds : List Int} {wr wr' : World}
theorem FarRel.below (H : FarRel w g2 gM n A c L v5 d v6 h ds wr) (hb : Below wr.heap.size wr wr') : FarRel w g2 gM n A c L v5 d v6 h ds wr' :=
 ⟨below_then H.hB H.hB.size hb, blk_below H.h2 hb, Kd.R_below H.hd hb, Kd.R_below H.hh hb, H.hm.below hb, H.hg⟩
theorem FarRel.heap {v6' : Value} {h' : List (S76)} (H : FarRel w g2 gM n A c L v5 d v6 h ds wr) (hb : Below wr.heap.size wr wr') (hn : Kd.R k76 76 wr' wr.heap.size (fun _ => True) v6' h') : FarRel w g2 gM n A c L v5 d v6' h' ds wr' :=
 ⟨below_then H.hB H.hB.size hb, blk_below H.h2 hb, Kd.R_below H.hd hb, Kd.R_lower hn H.hB.size, H.hm.below hb, H.hg⟩
theorem FarRel.put {gd m cap : Nat} (H : FarRel w g2 gM n A c L (.slice (some ⟨gd, 0, none⟩) m cap) d v6 h ds wr) (hgd : w.heap.size ≤ gd) {cells : Array Value} (hc : wr.heap[gd]? = some (.cells cells 3 (0, 0))) (i x : Int) :
  FarRel w g2 gM n A c L (.slice (some ⟨gd, 0, none⟩) m cap) (d.set i.toNat x) v6 h ds (wr.setCell ⟨gd, i.toNat, none⟩ (.int .i64 x)) := by
 have hp := Kd.R_putg H.hd i x
 have hne : g2 ≠ gd := fun e => by have := Kd.R_ne H.hd H.h2 (by decide); exact this (by rw [e]; rfl)
 have hnm : gM ≠ gd := fun e => H.hm.ne hc e.symm
 exact ⟨below_set H.hB hgd, blk_away H.h2 hne _, hp.1, Kd.R_set H.hh hc (by decide) _ _, H.hm.kept hp.2 (fun e => hnm (Option.some.inj e)), H.hg⟩
theorem FarRel.box {g t : Nat} {cells : Array Value} (H : FarRel w g2 gM n A c L v5 d v6 h ds wr) (on : Only g wr wr') (hg : w.heap.size ≤ g) (hc : wr.heap[g]? = some (.cells cells t (0, 0))) (ht1 : t ≠ 24) (ht2 : 3 ≠ t) (hne : some g ≠ v6.ownBlock) : FarRel w g2 gM n A c L v5 d v6 h ds wr' := by
 have hg2 : g2 ≠ g := fun e => by
  have h2 := H.h2
  rw [e, hc] at h2
  injection h2 with h2
  injection h2 with _ h3 _
  exact ht1 h3
 exact ⟨on.below H.hB hg, on.blk hg2 H.h2, Kd.R_grown1 H.hd rfl on.grown (fun e => (Kd.R_ne H.hd hc ht2) e), Kd.R_grown1 H.hh rfl on.grown hne, H.hm.kept on.grown (fun e => H.hm.ne hc (Option.some.inj e).symm), H.hg⟩
theorem FarRel.done {x : Int} (H : FarRel w g2 gM n A c L v5 d v6 h ds wr) (hm : DoneMap wr' gM (ds ++ [x])) (hg : wr.grownBy wr' (some gM)) : FarRel w g2 gM n A c L v5 d v6 h (ds ++ [x]) wr' := by
 have off : ∀ {α : Type} {k : Kd α} {e : Nat} {v : Value} {xs : List α}, k.R e wr w.heap.size (fun _ => True) v xs → k.R e wr' w.heap.size (fun _ => True) v xs := fun hr =>
  Kd.R_mono (Kd.R_grown (Kd.R_bound hr) hg (fun k hk e => by obtain ⟨_, _, _, q, _, cells, hc⟩ := hk; exact H.hm.ne hc (Option.some.inj e))) (fun _ _ => trivial)
 exact ⟨pw_below_grown H.hB _ H.hB.size hg (fun k hk => by rw [← Option.some.inj hk]; exact H.hg.2), blk_grown H.h2 hg (fun e => H.hm.ne H.h2 (Option.some.inj e)), off H.hd, off H.hh, hm, H.hg⟩
end
theorem isNode_f (n : Int) (L : List (S33)) (x : Int) : spt_isNode.f n L x = some (decide (0 ≤ x ∧ x < n)) := by
 unfold spt_isNode.f
 by_cases h : x ≥ 0
 ·rw [if_pos h]
  congr 1
  rw [decide_eq_decide]
  constructor
  ·exact fun h2 => ⟨h, h2⟩
  ·exact fun h2 => h2.2
 ·rw [if_neg h]
  congr 1
  symm
  rw [decide_eq_false_iff_not]
  exact fun h2 => h h2.1
theorem rd_at (l : List Int) (k : Nat) (hk : k < l.length) : rd l (k : Int) = l[k]'hk := by
 unfold rd
 rw [Int.toNat_natCast]
 simp [List.getD_eq_getElem?_getD, List.getElem?_eq_getElem hk]
set_option maxHeartbeats 4000000 in
set_option maxRecDepth 100000 in
theorem spt_far.calls (k : Nat) (a0_0 : Int) (A0_1 : Option Addr) (c0_1 : Nat) (l0_1 : List (S33)) (A1 : Option Addr) (c1 : Nat) (l1 : List Int) (r : List Int) (w : World) (hr0_1 : Kd.C k33 w A0_1 l0_1.length l0_1) (hc0_1 : l0_1.length ≤ c0_1) (hr1 : Kd.C (Kd.int .i64) w A1 l1.length l1) (hc1 : l1.length ≤ c1) (h : spt_far.f k a0_0 l0_1 l1 = some r) :
  Calls Try.prog 28 #[.agg #[.int .i64 a0_0, .slice A0_1 l0_1.length c0_1], .slice A1 l1.length c1] w fun e w' => ∃ v0_ : Value, e = .returned (v0_) ∧ Kd.R (Kd.int .i64) 3 w' w.heap.size (fun _ => True) v0_ r ∧ Below w.heap.size w w' := by
 unfold spt_far.f at h
 split at h
 case isFalse => cases h
 case isTrue hlen =>
 obtain ⟨⟨b1, b2⟩, hbl, h⟩ := Option.bind_eq_some_iff.mp h
 dsimp only at h
 split at h
 case isFalse => cases h
 case isTrue hb1 =>
 obtain ⟨h0, hst, h⟩ := Option.bind_eq_some_iff.mp h
 have hu24 := Try.underlying24
 have hu29 := Try.underlying29
 have hu59 := Try.underlying59
 have hu76 := Try.underlying76
 have hfd0 : ∀ (x0 x1 : Value) (W : World), (Instr.field 29 (.agg #[x0, x1]) 0).run Try.prog W = .ok x0 W := fun x0 x1 W => rfl
 have HR0 := m_ hr0_1
 have HC0 := m_ hc0_1
 have HR1 := m_ hr1
 have HC1 := m_ hc1
 have HBL := m_ hbl
 have HST := m_ hst
 have HH := m_ h
 have HLEN := m_ hlen
 clear hr0_1 hc0_1 hr1 hc1 hbl hst h hlen hb1
 have HB := m_ (Below.refl w.heap.size w)
 go_enter Try.func28, Try.ntmps28
 go_wp2_with (first | ((with_reducible refine gate_dst (N := 2) rfl ?_); refine bx_ 2 24 #[.int .i64 a0_0, .slice A0_1 l0_1.length c0_1] ?_; intro g2 hg w1 hbox hb; have B2 := m_ hbox; have G2 := m_ (Nat.le_of_eq hg.symm); replace HB := m_ hb; clear hb hbox hg; have hcz := cz2_ B2.out) | (go_at_call 27; refine Stop0.out ?_))
 refine ⟨?_⟩
 clear hcz
 refine (spt_blank.calls a0_0 A0_1 c0_1 l0_1 b1 b2 w1 (Kd.C_below HR0.out HB.out) HC0.out HBL.out).mono ?_
 rintro e w2 ⟨v5, v5b, rfl, hR5, -, hb⟩
 have HD := m_ (Kd.R_lower (Kd.R_mono hR5 (fun _ _ => trivial)) HB.out.size)
 replace B2 := m_ (blk_below B2.out hb)
 replace HB := m_ (below_then HB.out HB.out.size hb)
 clear hR5 hb HBL
 have HN : Aside0 (Kd.R k76 76 w2 w.heap.size (fun _ => True) (.slice none 0 0) []) := ⟨Kd.R_nil _ _ _ _ _⟩
 have HST0 : Aside0 (farStart k a0_0 (l1.drop 0) [] = some h0) := ⟨HST.out⟩
 clear HST
 go_wp2
 go_loopg [6, 18] l1.length (fun g s6 s18 wr => ∃ (i : Nat) (hh : List (S76)), i ≤ l1.length ∧ l1.length - i ≤ g ∧ s18 = .int .i64 i ∧ Aside0 (Below w.heap.size w wr) ∧ Aside0 (wr.heap[g2]? = some (.cells #[.int .i64 a0_0, .slice A0_1 l0_1.length c0_1] 24 (0, 0))) ∧ Aside0 (Kd.R (Kd.int .i64) 3 wr w.heap.size (fun _ => True) v5 b1) ∧ Aside0 (Kd.R k76 76 wr w.heap.size (fun _ => True) s6 hh) ∧ Aside0 (farStart k a0_0 (l1.drop i) hh = some h0))
 case atStart => exact ⟨0, [], Nat.zero_le _, by omega, rfl, HB, B2, HD, HN, HST0⟩
 case round =>
  clear HB B2 HD HN HST0
  obtain ⟨i, hh, hi, hg, rfl, HB, B2, HD, HN, HST⟩ := hrel
  have hl3 := HLEN.out
  by_cases hlt : i < l1.length
  ·have hlt' : (i : Int) < (l1.length : Int) := by omega
   obtain ⟨ad, cc, rfl, _, hK, hc0⟩ := Kd.C_get (Kd.C_below HR1.out HB.out) 0 (i : Int) (by omega) (by omega)
   obtain rfl := hK
   have e0 := hc0 0 _ rfl
   rw [Int.toNat_natCast, show (Kd.int .i64).sz = 1 from rfl, Nat.mul_one, Nat.add_zero, List.getD_eq_getElem?_getD, List.getElem?_eq_getElem hlt, Option.getD_some] at e0
   have hst := HST.out
   rw [List.drop_eq_getElem_cons hlt] at hst
   clear hc0
   generalize l1[i]'hlt = x at e0 hst
   unfold farStart at hst
   have HST2 := m_ hst
   have HI := m_ hlt
   clear hst HST hlt
   have hcz := cz2_ B2.out
   obtain ⟨A6, c6, ek6⟩ := Kd.R_slice HN.out
   subst ek6
   by_cases hx : 0 ≤ x ∧ x < a0_0
   ·have HQ := HST2.out
    rw [if_pos hx] at HQ
    obtain ⟨hh2, hpu, hst⟩ := Option.bind_eq_some_iff.mp HQ
    have HPU := m_ hpu
    have HST := m_ hst
    have HIS := m_ (show spt_isNode.f a0_0 l0_1 x = some true from by rw [isNode_f, decide_eq_true hx])
    clear HQ hpu hst HST2 hx
    go_wp2_with (first | (go_at_call 42; (with_reducible refine (spt_isNode.calls a0_0 A0_1 c0_1 l0_1 x true wr ?s1 HC0.out HIS.out).mono ?_); (case s1 => exact Kd.C_below HR0.out HB.out); rintro e w3 ⟨rfl, hb⟩; replace B2 := m_ (blk_below B2.out hb); replace HD := m_ (Kd.R_below HD.out hb); replace HN := m_ (Kd.R_below HN.out hb); replace HB := m_ (below_then HB.out HB.out.size hb); clear hb) | (go_at_call 43; refine Stop0.out ?_))
    refine ⟨?_⟩
    refine (heap_Push.calls k A6 c6 hh 0 x hh2 w3 (Kd.R_reads' HN.out).2.2 (Kd.R_reads' HN.out).2.1 HPU.out).mono ?_
    rintro e w4 ⟨v6, rfl, hR, hb⟩
    replace B2 := m_ (blk_below B2.out hb)
    replace HD := m_ (Kd.R_below HD.out hb)
    replace HN := m_ (Kd.R_lower hR HB.out.size)
    replace HB := m_ (below_then HB.out HB.out.size hb)
    clear hb hR hcz
    go_wp2
    go_roundg (l1.length - (i + 1))
    case measure => have := HI.out; omega
    case rel => exact ⟨i + 1, hh2, (by have := HI.out; omega), (by omega), by go_num, HB, B2, HD, HN, HST⟩
   ·have HQ := HST2.out
    rw [if_neg hx] at HQ
    have HST := m_ HQ
    have HIS := m_ (show spt_isNode.f a0_0 l0_1 x = some false from by rw [isNode_f, decide_eq_false hx])
    clear HQ HST2 hx
    go_wp2_with (first | (go_at_call 42; (with_reducible refine (spt_isNode.calls a0_0 A0_1 c0_1 l0_1 x false wr ?s1 HC0.out HIS.out).mono ?_); (case s1 => exact Kd.C_below HR0.out HB.out); rintro e w3 ⟨rfl, hb⟩; replace B2 := m_ (blk_below B2.out hb); replace HD := m_ (Kd.R_below HD.out hb); replace HN := m_ (Kd.R_below HN.out hb); replace HB := m_ (below_then HB.out HB.out.size hb); clear hb))
    clear hcz
    go_roundg (l1.length - (i + 1))
    case measure => have := HI.out; omega
    case rel => exact ⟨i + 1, hh, (by have := HI.out; omega), (by omega), by go_num, HB, B2, HD, HN, HST⟩
  ·obtain rfl : i = l1.length := by omega
   have hlt' : ¬ ((l1.length : Int) < (l1.length : Int)) := by omega
   have hst := HST.out
   rw [List.drop_of_length_le (Nat.le_refl _)] at hst
   obtain rfl := Option.some.inj hst
   clear hst HST HR1 HC1
   go_wp2_with ((with_reducible refine gate_dst (N := 30) rfl ?_); refine Stop0.out ?_)
   refine ⟨?_⟩
   have hmm := DoneMap.made wr
   have HFR0 : Aside0 (FarRel w g2 wr.heap.size a0_0 A0_1 c0_1 l0_1 v5 b1 u6 hh [] (wr.alloc (.map #[] 0))) := ⟨⟨below_alloc HB.out _, blk_alloc B2.out _, Kd.R_alloc HD.out _, Kd.R_alloc HN.out _, hmm, G2.out, HB.out.size⟩⟩
   refine wpList_run rfl (v := .map (some wr.heap.size)) (w' := wr.alloc (.map #[] 0)) rfl ?_
   (try simp only [Act.put, List.setIfInBounds_toArray, List.set_cons_zero, List.set_cons_succ])
   generalize wr.heap.size = gM at HFR0 ⊢
   generalize wr.alloc (.map #[] 0) = wM at HFR0 ⊢
   clear hmm B2 HD HN HB hl3 hi hg hlt hlt'
   go_wp2
   go_loopg [6] k (fun g s6 wr => ∃ (f : Nat) (hh : List (S76)) (ds d : List Int), f ≤ g ∧ Aside0 (FarRel w g2 gM a0_0 A0_1 c0_1 l0_1 v5 d s6 hh ds wr) ∧ Aside0 (farLoop k a0_0 l0_1 f hh ds d = some r))
   case atStart => exact ⟨k, hh, [], b1, Nat.le_refl _, HFR0, HH⟩
   case round =>
    clear HFR0 HH
    obtain ⟨f, hp, ds, d, hfg, HF, HQ⟩ := hrel
    cases f with
    | zero => have := HQ.out; cases this
    | succ f =>
    obtain ⟨A6, c6, ek6⟩ := Kd.R_slice HF.out.hh
    subst ek6
    have hq := HQ.out
    unfold farLoop at hq
    by_cases hz : hp.length = 0
    ·rw [if_pos hz] at hq
     obtain rfl := Option.some.inj hq
     have hgt : ¬ (0 < hp.length) := by omega
     have hgt2 : decide (0 < hp.length) = false := decide_eq_false hgt
     clear hq HQ hz
     go_wp2
     go_ret
     exact ⟨_, rfl, HF.out.hd, HF.out.hB⟩
    ·rw [if_neg hz] at hq
     obtain ⟨⟨p1, p2, p3, p4⟩, hpop, hq⟩ := Option.bind_eq_some_iff.mp hq
     dsimp only at hq
     have hgt : 0 < hp.length := by omega
     have hgt2 : decide (0 < hp.length) = true := decide_eq_true hgt
     have HPOP := m_ hpop
     have HQ2 := m_ hq
     clear hpop hq HQ hz
     go_wp2_with (first | ((with_reducible refine gate_dst (N := 10) rfl ?_); refine bx_ 10 76 #[.int .i64 0, .int .i64 0] ?_; intro g10 hg w3 hbox hb; have B10 := m_ hbox; have HZ := m_ hg; have HE := m_ hb; clear hb hbox hg) | (go_at_call 44; refine Stop0.out ?_))
     refine ⟨?_⟩
     have HF3 := m_ (HF.out.below HE.out)
     have G10 := m_ (show w.heap.size ≤ g10 from by rw [HZ.out]; exact HF.out.hB.size)
     clear HF HE HZ
     refine (heap_Pop.calls k A6 c6 hp p1 p2 p3 p4 w3 (Kd.R_reads' HF3.out.hh).2.2 (Kd.R_reads' HF3.out.hh).2.1 HPOP.out).mono ?_
     rintro e w4 ⟨v6, rfl, hR, hb⟩
     have HF4 := m_ (HF3.out.heap hb hR)
     have HNE := m_ (show some g10 ≠ v6.ownBlock from fun e => by have h1 := Kd.R_base hR g10 e.symm; have h2 := blk_lt B10.out; omega)
     replace B10 := m_ (blk_below B10.out hb)
     clear hR hb HF3 hgt hgt2 HPOP
     go_wp2_with ((with_reducible refine gate_store (t := 76) (p := 10) (v := .tmp 38) rfl ?_); refine Stop0.out ?_)
     refine ⟨?_⟩
     refine blk_write (cs' := #[.int .i64 p2, .int .i64 p3]) rfl rfl rfl (#[Value.int .i64 p2, .int .i64 p3]).toList rfl rfl rfl rfl (by simp [Value.oneCell']) B10.out (by simp) rfl ?_
     intro w5 bk on
     have HF5 := m_ (HF4.out.box on G10.out B10.out (by decide) (by decide) HNE.out)
     replace B10 := m_ bk
     clear bk on HF4 HNE
     have hcz := cz2_ B10.out
     have hq := HQ2.out
     split at hq
     case isFalse => cases hq
     case isTrue hwf =>
     have HWF := m_ hwf
     clear hwf HQ2
     by_cases hcon : ds.contains p3 = true
     ·rw [if_pos hcon] at hq
      have HQ := m_ hq
      have HCON := m_ hcon
      clear hq hcon
      go_wp2_with (at_lookup; refine Stop0.out ?_)
      refine ⟨?_⟩
      refine done_look rfl _ _ rfl gM ds rfl HF5.out.hm p3 rfl HWF.out ?_
      rw [HCON.out]
      go_wp2
      go_roundg f
      case measure => omega
      case rel => exact ⟨f, p1, ds, d, Nat.le_refl _, HF5, HQ⟩
     ·rw [if_neg hcon] at hq
      by_cases hok : (0 ≤ p3 ∧ p3 < (d.length : Int)) ∧ ds.length < 1000
      case neg => rw [if_neg hok] at hq; cases hq
      rw [if_pos hok] at hq
      obtain ⟨hops, hnx, hq⟩ := Option.bind_eq_some_iff.mp hq
      by_cases hhl : hops.length ≤ 1000000
      case neg => rw [if_neg hhl] at hq; cases hq
      rw [if_pos hhl] at hq
      obtain ⟨h2, hho, hq⟩ := Option.bind_eq_some_iff.mp hq
      have HQ := m_ hq
      have HHO : Aside0 (farHops k l0_1 p2 (ds ++ [p3]) (hops.drop 0) p1 = some h2) := ⟨hho⟩
      have HNX := m_ hnx
      have HOK := m_ hok
      have HHL := m_ hhl
      have HCON := m_ (Bool.eq_false_iff.mpr hcon)
      clear hq hho hnx hok hhl hcon
      go_wp2_with (at_lookup; refine Stop0.out ?_)
      refine ⟨?_⟩
      refine done_look rfl _ _ rfl gM ds rfl HF5.out.hm p3 rfl HWF.out ?_
      rw [HCON.out]
      go_wp2_with (at_mapUpdate; refine Stop0.out ?_)
      refine ⟨?_⟩
      refine done_put rfl _ _ _ rfl gM ds (by have := HOK.out.2; omega) rfl HF5.out.hm p3 rfl rfl HWF.out ?_
      intro w6 hm6 hg6
      have HF6 := m_ (HF5.out.done hm6 hg6)
      replace B10 := m_ (blk_grown B10.out hg6 (fun e => HF5.out.hm.ne B10.out (Option.some.inj e)))
      clear hm6 hg6 HF5 hcz
      obtain ⟨gd, cd, e5, hgd, _, cells5, hc5⟩ := Kd.R_form HF6.out.hd (by have := HOK.out.1; omega)
      subst e5
      have hcell := Kd.R_celln 0 HF6.out.hd p3 HOK.out.1.1 HOK.out.1.2
      have hcz := cz2_ B10.out
      have hok1 := HOK.out.1.1
      have hok2 := HOK.out.1.2
      have HC5 := m_ (And.intro hgd hc5)
      clear hgd hc5
      go_wp2_with ((with_reducible refine gate_store (t := 3) (p := 52) (v := .tmp 51) rfl ?_); refine Stop0.out ?_)
      refine ⟨?_⟩
      refine st_ 3 52 (w6.setCell ⟨gd, p3.toNat, none⟩ (.int .i64 p2)) ?_
      intro w7 hw7
      have HF7 := m_ (show FarRel w g2 gM a0_0 A0_1 c0_1 l0_1 (.slice (some ⟨gd, 0, none⟩) d.length cd) (d.set p3.toNat p2) v6 p1 (ds ++ [p3]) w7 from by rw [hw7]; exact HF6.out.put HC5.out.1 HC5.out.2 p3 p2)
      have hg10 : g10 ≠ gd := fun e => by
       have hc := HC5.out.2
       rw [← e, B10.out] at hc
       injection hc with hc
       injection hc with _ h3 _
       exact absurd h3 (by decide)
      replace B10 := m_ (show w7.heap[g10]? = some (.cells #[.int .i64 p2, .int .i64 p3] 76 (0, 0)) from by rw [hw7]; exact blk_away B10.out hg10 _)
      clear hw7 hg10 hcell hcz HC5 HF6 hok1 hok2
      have hcz := cz2_ B10.out
      have hcz2 := cz2_ HF7.out.h2
      go_wp2_with (go_at_call 29; refine Stop0.out ?_)
      refine ⟨?_⟩
      refine (graph_Next.calls k a0_0 A0_1 c0_1 l0_1 p3 hops w7 (Kd.C_below HR0.out HF7.out.hB) HC0.out HNX.out).mono ?_
      rintro e w8 ⟨vh, rfl, hRh, hb⟩
      have HO := m_ (Kd.R_lower hRh HF7.out.hB.size)
      have HF8 := m_ (HF7.out.below hb)
      replace B10 := m_ (blk_below B10.out hb)
      obtain ⟨Ah, ch, eh⟩ := Kd.R_slice hRh
      subst eh
      clear hb hRh hcz hcz2 HF7 HNX
      go_wp2
      go_loopg [6, 58] hops.length (fun q s6 s58 wr => ∃ (i : Nat) (hh : List (S76)), i ≤ hops.length ∧ hops.length - i ≤ q ∧ s58 = .int .i64 i ∧ Aside0 (FarRel w g2 gM a0_0 A0_1 c0_1 l0_1 (.slice (some ⟨gd, 0, none⟩) d.length cd) (d.set p3.toNat p2) s6 hh (ds ++ [p3]) wr) ∧ Aside0 (wr.heap[g10]? = some (.cells #[.int .i64 p2, .int .i64 p3] 76 (0, 0))) ∧ Aside0 (Kd.R k59 59 wr w.heap.size (fun _ => True) (.slice Ah hops.length ch) hops) ∧ Aside0 (farHops k l0_1 p2 (ds ++ [p3]) (hops.drop i) hh = some h2))
      case atStart => exact ⟨0, p1, Nat.zero_le _, by omega, rfl, HF8, B10, HO, HHO⟩
      case round =>
       clear HF8 B10 HO HHO
       obtain ⟨i, hh, hi, hg, rfl, HF, B10, HO, HHO⟩ := hrel
       have hl3 := HHL.out
       by_cases hlt : i < hops.length
       ·have hlt' : (i : Int) < (hops.length : Int) := by omega
        obtain ⟨ad, rfl, e0, e1⟩ := at_T59 (Kd.R_reads' HO.out).2.2 (i : Int) (by omega) (by omega)
        rw [rd_hop hops i hlt, Int.toNat_natCast] at e0 e1
        have hho := HHO.out
        rw [List.drop_eq_getElem_cons hlt] at hho
        have HI := m_ hlt
        generalize hops[i]'hlt = o at e0 e1 hho
        obtain ⟨o0, o1⟩ := o
        unfold farHops at hho
        dsimp only at hho e0 e1
        split at hho
        case isFalse => cases hho
        case isTrue hwf2 =>
        have HWF2 := m_ hwf2
        have HHO2 := m_ hho
        clear hwf2 hho HHO hlt
        obtain ⟨A6, c6, ek6⟩ := Kd.R_slice HF.out.hh
        subst ek6
        go_wp2_with ((with_reducible refine gate_dst (N := 12) rfl ?_); refine bx_ 12 59 #[.int .i64 0, .int .i64 0] ?_; intro g12 hg12 w9 hbox hb; have B12 := m_ hbox; have HZ := m_ hg12; have HE := m_ hb; clear hb hbox hg12; refine Stop0.out ?_)
        refine ⟨?_⟩
        clear e0 e1
        have HF9 := m_ (HF.out.below HE.out)
        have HNE := m_ (show some g12 ≠ (Value.slice A6 hh.length c6).ownBlock from fun e => by have h1 := Kd.R_lt HF.out.hh g12 e.symm; have h2 := HZ.out; omega)
        have G12 := m_ (show w.heap.size ≤ g12 from by rw [HZ.out]; exact HF.out.hB.size)
        have N12 := m_ (show g10 ≠ g12 from by rw [HZ.out]; exact Nat.ne_of_lt (blk_lt B10.out))
        replace B10 := m_ (blk_below B10.out HE.out)
        have HNO := m_ (show some g12 ≠ (Value.slice (some ad) hops.length ch).ownBlock from fun e => by have h1 := Kd.R_lt HO.out g12 e.symm; have h2 := HZ.out; omega)
        replace HO := m_ (Kd.R_below HO.out HE.out)
        refine blk_write (cs' := #[.int .i64 o0, .int .i64 o1]) rfl rfl rfl (#[Value.int .i64 o0, .int .i64 o1]).toList rfl rfl rfl rfl (by simp [Value.oneCell']) B12.out (by simp) rfl ?_
        intro w10 bk on
        have HF10 := m_ (HF9.out.box on G12.out B12.out (by decide) (by decide) HNE.out)
        replace B10 := m_ (on.blk N12.out B10.out)
        replace HO := m_ (Kd.R_grown1 HO.out rfl on.grown HNO.out)
        replace B12 := m_ bk
        clear bk on HF9 HF HNE HNO HE HZ N12
        have hcz := cz2_ B12.out
        by_cases hcon : (ds ++ [p3]).contains o1 = true
        ·have hho := HHO2.out
         rw [if_pos hcon] at hho
         have HHO := m_ hho
         have HCON := m_ hcon
         clear hho hcon HHO2
         go_wp2_with (at_lookup; refine Stop0.out ?_)
         refine ⟨?_⟩
         refine done_look rfl _ _ rfl gM (ds ++ [p3]) rfl HF10.out.hm o1 rfl HWF2.out ?_
         rw [HCON.out]
         go_wp2
         go_roundg (hops.length - (i + 1))
         case measure => have := HI.out; omega
         case rel => exact ⟨i + 1, hh, (by have := HI.out; omega), (by omega), by go_num, HF10, B10, HO, HHO⟩
        ·have hho := HHO2.out
         rw [if_neg hcon] at hho
         by_cases hok : 0 ≤ o0 ∧ o0 < (l0_1.length : Int)
         case neg => rw [if_neg hok] at hho; cases hho
         rw [if_pos hok] at hho
         obtain ⟨hh2, hpu, hho⟩ := Option.bind_eq_some_iff.mp hho
         have HHO := m_ hho
         have HPU := m_ hpu
         have HOK := m_ hok
         have HCON := m_ (Bool.eq_false_iff.mpr hcon)
         clear hho hpu hok hcon HHO2
         go_wp2_with (at_lookup; refine Stop0.out ?_)
         refine ⟨?_⟩
         refine done_look rfl _ _ rfl gM (ds ++ [p3]) rfl HF10.out.hm o1 rfl HWF2.out ?_
         rw [HCON.out]
         obtain ⟨adL, eL, l0, l1_, l2, l3⟩ := at_T33 (Kd.C_below HR0.out HF10.out.hB) o0 HOK.out.1 HOK.out.2
         subst eL
         have hok1 := HOK.out.1
         have hok2 := HOK.out.2
         generalize hlw : (rd_T33 l0_1 o0).f2 = lw at l2 HPU
         have HLW := m_ hlw
         have HL2 := m_ l2
         clear hlw l0 l1_ l2 l3
         go_upto_region 20 with (fail)
         (try simp only [Act.put, List.setIfInBounds_toArray, List.set_cons_zero, List.set_cons_succ])
         refine start_ (n := 16) (S := fun W => W.cell? ⟨g10, 0, none⟩ = some (.int .i64 p2) ∧ W.cell? ⟨g2, 1, none⟩ = some (.slice (some adL) l0_1.length c0_1) ∧ W.cell? ⟨g12, 0, none⟩ = some (.int .i64 o0) ∧ W.cell? ⟨g12, 1, none⟩ = some (.int .i64 o1) ∧ W.cell? ⟨(adL.add (o0.toNat * 4)).block, (adL.add (o0.toNat * 4)).off + 2, none⟩ = some (.int .i64 lw)) (ds := [14]) (bs_ 16 0) (by kernel_rfl) rfl rfl ⟨(blk_cell (blk_drew B10.out) 0).trans rfl, (blk_cell (blk_drew HF10.out.h2) 1).trans rfl, (blk_cell (blk_drew B12.out) 0).trans rfl, (blk_cell (blk_drew B12.out) 1).trans rfl, HL2.out⟩ (fun hHeld => ?_)
         refine pk_ 0 67 ?_
         refine pk_ 1 68 ?_
         refine tk_ 2 69 ?_
         refine pk_ 3 70 ?_
         refine tk_ 4 71 ?_
         refine pk_ 5 72 ?_
         refine tk_ 6 73 ?_
         refine pk_ 7 74 (v := .pointer (some (adL.add (o0.toNat * 4)))) (hy := Or.inl ⟨by rfl, by intro w'; go_simp⟩) ?_
         refine pk_ 8 75 (v := .pointer (some ⟨(adL.add (o0.toNat * 4)).block, (adL.add (o0.toNat * 4)).off + 2, none⟩)) (hy := Or.inl ⟨by rfl, by intro w'; go_simp⟩) ?_
         refine tk_ 9 76 ?_
         refine pk_ 10 77 (v := .int .i64 (wrap64 (p2 + lw))) (hy := Or.inl ⟨by rfl, by intro w'; go_simp; rw [IntKind.wrap_i64]; unfold wrap64; omega⟩) ?_
         refine pk_ 11 78 ?_
         refine tk_ 12 79 ?_
         refine pk_ 13 80 ?_
         refine last_ (i := 14) (N := some 81) (bs_ 16 (0 + 2 ^ 0 + 2 ^ 1 + 2 ^ 2 + 2 ^ 3 + 2 ^ 4 + 2 ^ 5 + 2 ^ 6 + 2 ^ 7 + 2 ^ 8 + 2 ^ 9 + 2 ^ 10 + 2 ^ 11 + 2 ^ 12 + 2 ^ 13 + 2 ^ 14)) rfl rfl (by kernel_rfl) (by decide) (fun K hK => ?_)
         refine gz_ Try.func43 #[.slice A6 hh.length c6, .agg #[.int .i64 (wrap64 (p2 + lw)), .int .i64 o1]] ?_
         have HF11 := m_ (HF10.out.below (below_drew1 (Below.refl _ _)))
         have B10d := m_ (blk_drew B10.out)
         have HOd := m_ (Kd.R_drew HO.out)
         refine (heap_Push.calls k A6 c6 hh (wrap64 (p2 + lw)) o1 hh2 w10.drew (Kd.R_reads' HF11.out.hh).2.2 (Kd.R_reads' HF11.out.hh).2.1 HPU.out).mono ?_
         rintro e w11 ⟨v6n, rfl, hR, hb⟩
         refine ⟨_, rfl, ?_⟩
         have HF12 := m_ (HF11.out.heap hb hR)
         have B10n := m_ (blk_below B10d.out hb)
         have HOn := m_ (Kd.R_below HOd.out hb)
         clear hb hR HF11 B10d HOd
         refine hK.out _ _ ?_
         clear hK K hHeld
         refine nz_ (some 81) ?_
         refine pk_ 15 6 ?_
         refine done_ (by kernel_rfl) ?_
         (try simp only [Exit.inBlock, Exit.then])
         go_wp2
         go_roundg (hops.length - (i + 1))
         case measure => have := HI.out; omega
         case rel => exact ⟨i + 1, hh2, (by have := HI.out; omega), (by omega), by go_num, HF12, B10n, HOn, HHO⟩
       ·obtain rfl : i = hops.length := by omega
        have hlt' : ¬ ((hops.length : Int) < (hops.length : Int)) := by omega
        have hho := HHO.out
        rw [List.drop_of_length_le (Nat.le_refl _)] at hho
        obtain rfl := Option.some.inj hho
        clear hho HHO hlt
        go_wp2
        go_roundg f
        case measure => omega
        case rel => exact ⟨f, hh, ds ++ [p3], d.set p3.toNat p2, Nat.le_refl _, HF, HQ⟩

end Go.Proofs.Ytkcphjdjhlikhaa.P
