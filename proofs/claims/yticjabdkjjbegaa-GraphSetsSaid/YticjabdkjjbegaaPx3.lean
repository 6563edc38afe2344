/- For each Go function a Lean function, and the proof that a call comes to what it tells: made by program out of the translation (the kit's print, with texts by hand put in). No condition. -/
import Derived.Test.YticjabdkjjbegaaPx0
namespace Go.Proofs.Yticjabdkjjbegaa.P
open Go.RowKit Go.Proofs.Yticjabdkjjbegaa.HRows Go.Proofs.YticjabdkjjbegaaW.PrintWords Go.Proofs.YticjabdkjjbegaaW.PrintLast Go.Proofs.YticjabdkjjbegaaW.PrintMore
attribute [local go_sem] max2_int min2_int max_two min_two max_three min_three max_four min_four   -- for this text's walks alone
set_option linter.unusedVariables false
set_option linter.unusedSimpArgs false

/-! ### graph_over: function 35 -/
def graph_over.f (a0_0 : Int) (a0_1 : Int) (a0_2 : Int) (a0_3 : Bool) (a1 : Int) : Option (Int × Bool) := if a1 = a0_0 then (some (a0_1, true)) else (if a1 = a0_1 then (some (a0_0, true)) else (some (0, false)))
set_option maxHeartbeats 8000000 in
set_option maxRecDepth 100000 in
theorem graph_over.calls (a0_0 : Int) (a0_1 : Int) (a0_2 : Int) (a0_3 : Bool) (a1 : Int) (r1 : Int) (r2 : Bool) (w : World) (h : graph_over.f a0_0 a0_1 a0_2 a0_3 a1 = some (r1, r2)) :
    Calls Try.prog 35 #[.agg #[.int .i64 a0_0, .int .i64 a0_1, .int .i64 a0_2, .bool a0_3], .int .i64 a1] w fun e w' => e = .returned (.tuple #[.int .i64 r1, .bool r2]) ∧ Below w.heap.size w w' := by
  have hu41 := Try.underlying41
  have HB := Aside0.mk (Below.refl w.heap.size w)
  have H : (if a1 = a0_0 then (some (a0_1, true)) else (if a1 = a0_1 then (some (a0_0, true)) else (some (0, false)))) = some (r1, r2) := h
  clear h
  by_cases c3 : a1 = a0_0
  · rw [if_pos c3] at H
    have c3b0 : (a1 == a0_0) = true := beq_iff_eq.mpr c3
    have c3b1 : (a1 != a0_0) = false := bne_eq_false_iff_eq.mpr c3
    clear c3
    simp only [Option.some.injEq, Prod.mk.injEq] at H
    obtain ⟨rfl, rfl⟩ := H
    go_enter Try.func35, Try.ntmps35
    go_wp2_with (first | ((with_reducible refine gate_dst (N := 2) rfl ?_); refine box_event ?hg (N := 2) ?hd (cs := #[.int .i64 a0_0, .int .i64 a0_1, .int .i64 a0_2, .bool a0_3]) (t := 41) ?hr ?_; (case hd => rfl); (case hg => rfl); (case hr => first | (go_simp; done) | (go_simp; rfl)); intro gb101 hg w4 hbox hb; have n0_ := Aside0.mk (below_step (by repeat (first | (with_reducible first | exact HB.out | apply below_alloc | apply pw_below_drewN | apply below_drew1) | exact HB.out)) hb); have n1_ := Aside0.mk (hbox); have n2_ := Aside0.mk ((by rw [hg]; exact (below_size (by repeat (first | (with_reducible first | exact HB.out | apply below_alloc | apply pw_below_drewN | apply below_drew1) | exact HB.out))) : w.heap.size ≤ gb101)); have n3_ := Aside0.mk ((by rw [hg]; exact (below_size (by repeat (first | (with_reducible first | exact HB.out | apply below_alloc | apply pw_below_drewN | apply below_drew1) | exact HB.out))) : w.heap.size ≤ gb101)); clear HB; have HB := n0_; have BK101 := n1_; have GW101 := n2_; have GE101 := n3_; clear n0_ n1_ n2_ n3_; clear hb hbox hg; have hcz5_0 : w4.cell? ⟨gb101, 0, none⟩ = some (.int .i64 a0_0) := (blk_cell BK101.out 0).trans rfl; have hcz5_1 : w4.cell? ⟨gb101, 1, none⟩ = some (.int .i64 a0_1) := (blk_cell BK101.out 1).trans rfl; have hcz5_2 : w4.cell? ⟨gb101, 2, none⟩ = some (.int .i64 a0_2) := (blk_cell BK101.out 2).trans rfl; have hcz5_3 : w4.cell? ⟨gb101, 3, none⟩ = some (.bool a0_3) := (blk_cell BK101.out 3).trans rfl; have hfz5_0 := blk_frozen BK101.out 0; have hfz5_1 := blk_frozen BK101.out 1; have hfz5_2 := blk_frozen BK101.out 2; have hfz5_3 := blk_frozen BK101.out 3))
    go_ret2
    exact ⟨by first | rfl | (simp [errW_none, errW_some] <;> rfl) | (simp [*, errW_none, errW_some] <;> rfl), by repeat (first | (with_reducible first | exact HB.out | apply below_alloc | apply pw_below_drewN | apply below_drew1 | refine below_set ?_ GE101.out) | exact HB.out)⟩
  · rw [if_neg c3] at H
    have c3b0 : (a1 == a0_0) = false := beq_eq_false_iff_ne.mpr c3
    have c3b1 : (a1 != a0_0) = true := bne_iff_ne.mpr c3
    by_cases c6 : a1 = a0_1
    · rw [if_pos c6] at H
      have c6b0 : (a1 == a0_1) = true := beq_iff_eq.mpr c6
      have c6b1 : (a1 != a0_1) = false := bne_eq_false_iff_eq.mpr c6
      clear c6
      simp only [Option.some.injEq, Prod.mk.injEq] at H
      obtain ⟨rfl, rfl⟩ := H
      go_enter Try.func35, Try.ntmps35
      go_wp2_with (first | ((with_reducible refine gate_dst (N := 2) rfl ?_); refine box_event ?hg (N := 2) ?hd (cs := #[.int .i64 a0_0, .int .i64 a0_1, .int .i64 a0_2, .bool a0_3]) (t := 41) ?hr ?_; (case hd => rfl); (case hg => rfl); (case hr => first | (go_simp; done) | (go_simp; rfl)); intro gb101 hg w7 hbox hb; have n0_ := Aside0.mk (below_step (by repeat (first | (with_reducible first | exact HB.out | apply below_alloc | apply pw_below_drewN | apply below_drew1) | exact HB.out)) hb); have n1_ := Aside0.mk (hbox); have n2_ := Aside0.mk ((by rw [hg]; exact (below_size (by repeat (first | (with_reducible first | exact HB.out | apply below_alloc | apply pw_below_drewN | apply below_drew1) | exact HB.out))) : w.heap.size ≤ gb101)); have n3_ := Aside0.mk ((by rw [hg]; exact (below_size (by repeat (first | (with_reducible first | exact HB.out | apply below_alloc | apply pw_below_drewN | apply below_drew1) | exact HB.out))) : w.heap.size ≤ gb101)); clear HB; have HB := n0_; have BK101 := n1_; have GW101 := n2_; have GE101 := n3_; clear n0_ n1_ n2_ n3_; clear hb hbox hg; have hcz8_0 : w7.cell? ⟨gb101, 0, none⟩ = some (.int .i64 a0_0) := (blk_cell BK101.out 0).trans rfl; have hcz8_1 : w7.cell? ⟨gb101, 1, none⟩ = some (.int .i64 a0_1) := (blk_cell BK101.out 1).trans rfl; have hcz8_2 : w7.cell? ⟨gb101, 2, none⟩ = some (.int .i64 a0_2) := (blk_cell BK101.out 2).trans rfl; have hcz8_3 : w7.cell? ⟨gb101, 3, none⟩ = some (.bool a0_3) := (blk_cell BK101.out 3).trans rfl; have hfz8_0 := blk_frozen BK101.out 0; have hfz8_1 := blk_frozen BK101.out 1; have hfz8_2 := blk_frozen BK101.out 2; have hfz8_3 := blk_frozen BK101.out 3))
      go_ret2
      exact ⟨by first | rfl | (simp [errW_none, errW_some] <;> rfl) | (simp [*, errW_none, errW_some] <;> rfl), by repeat (first | (with_reducible first | exact HB.out | apply below_alloc | apply pw_below_drewN | apply below_drew1 | refine below_set ?_ GE101.out) | exact HB.out)⟩
    · rw [if_neg c6] at H
      have c6b0 : (a1 == a0_1) = false := beq_eq_false_iff_ne.mpr c6
      have c6b1 : (a1 != a0_1) = true := bne_iff_ne.mpr c6
      simp only [Option.some.injEq, Prod.mk.injEq] at H
      obtain ⟨rfl, rfl⟩ := H
      go_enter Try.func35, Try.ntmps35
      go_wp2_with (first | ((with_reducible refine gate_dst (N := 2) rfl ?_); refine box_event ?hg (N := 2) ?hd (cs := #[.int .i64 a0_0, .int .i64 a0_1, .int .i64 a0_2, .bool a0_3]) (t := 41) ?hr ?_; (case hd => rfl); (case hg => rfl); (case hr => first | (go_simp; done) | (go_simp; rfl)); intro gb101 hg w9 hbox hb; have n0_ := Aside0.mk (below_step (by repeat (first | (with_reducible first | exact HB.out | apply below_alloc | apply pw_below_drewN | apply below_drew1) | exact HB.out)) hb); have n1_ := Aside0.mk (hbox); have n2_ := Aside0.mk ((by rw [hg]; exact (below_size (by repeat (first | (with_reducible first | exact HB.out | apply below_alloc | apply pw_below_drewN | apply below_drew1) | exact HB.out))) : w.heap.size ≤ gb101)); have n3_ := Aside0.mk ((by rw [hg]; exact (below_size (by repeat (first | (with_reducible first | exact HB.out | apply below_alloc | apply pw_below_drewN | apply below_drew1) | exact HB.out))) : w.heap.size ≤ gb101)); clear HB; have HB := n0_; have BK101 := n1_; have GW101 := n2_; have GE101 := n3_; clear n0_ n1_ n2_ n3_; clear hb hbox hg; have hcz10_0 : w9.cell? ⟨gb101, 0, none⟩ = some (.int .i64 a0_0) := (blk_cell BK101.out 0).trans rfl; have hcz10_1 : w9.cell? ⟨gb101, 1, none⟩ = some (.int .i64 a0_1) := (blk_cell BK101.out 1).trans rfl; have hcz10_2 : w9.cell? ⟨gb101, 2, none⟩ = some (.int .i64 a0_2) := (blk_cell BK101.out 2).trans rfl; have hcz10_3 : w9.cell? ⟨gb101, 3, none⟩ = some (.bool a0_3) := (blk_cell BK101.out 3).trans rfl; have hfz10_0 := blk_frozen BK101.out 0; have hfz10_1 := blk_frozen BK101.out 1; have hfz10_2 := blk_frozen BK101.out 2; have hfz10_3 := blk_frozen BK101.out 3))
      go_ret2
      exact ⟨by first | rfl | (simp [errW_none, errW_some] <;> rfl) | (simp [*, errW_none, errW_some] <;> rfl), by repeat (first | (with_reducible first | exact HB.out | apply below_alloc | apply pw_below_drewN | apply below_drew1 | refine below_set ?_ GE101.out) | exact HB.out)⟩

/-! ### api_Link_44: function 44, by hand (slices.IndexFunc.Link.lean.tpl) -/
/-- The place of the first link of which p holds; -1: there is none. -/
def idxL (p : S41 → Bool) (l : List (S41)) : Int := if l.any p then (l.findIdx p : Int) else -1
theorem idxL_hit (p : S41 → Bool) (l : List (S41)) (k : Nat) (hk : k < l.length) (h1 : p (l[k]'hk) = true) (h0 : ∀ j (h : j < l.length), j < k → p (l[j]'h) = false) : idxL p l = (k : Int) := by
  have hany : l.any p = true := List.any_eq_true.2 ⟨_, List.getElem_mem hk, h1⟩
  have hf : l.findIdx p = k := by
    rcases Nat.lt_trichotomy (l.findIdx p) k with h | h | h
    · have hlt : l.findIdx p < l.length := by omega
      have := List.findIdx_getElem (w := hlt) (p := p)
      rw [h0 _ hlt h] at this
      cases this
    · exact h
    · have := List.not_of_lt_findIdx h
      rw [h1] at this
      simp at this
  unfold idxL
  rw [if_pos hany, hf]
theorem idxL_miss (p : S41 → Bool) (l : List (S41)) (h0 : ∀ j (h : j < l.length), p (l[j]'h) = false) : idxL p l = -1 := by
  have hany : ¬ l.any p = true := by
    intro h
    obtain ⟨x, hx, hp⟩ := List.any_eq_true.1 h
    obtain ⟨j, hj, rfl⟩ := List.getElem_of_mem hx
    rw [h0 j hj] at hp
    cases hp
  unfold idxL
  rw [if_neg hany]
theorem idxL_nonneg (p : S41 → Bool) (l : List (S41)) : decide (idxL p l ≥ 0) = l.any p := by
  unfold idxL
  cases h : l.any p with
  | true => simp
  | false => simp
theorem rd_link (l : List (S41)) (k : Nat) (hk : k < l.length) : rd_T41 l (k : Int) = l[k]'hk := by
  unfold rd_T41
  rw [Int.toNat_natCast]
  simp [List.getD_eq_getElem?_getD, List.getElem?_eq_getElem hk]
set_option maxHeartbeats 2000000 in
/-- Whatever function is handed over that answers p and leaves what was there. -/
theorem ixLink.calls (g : Nat) (lb : Array Value) (p : S41 → Bool) (A : Option Addr) (c : Nat) (l : List (S41)) (w : World) (eg : ∀ args w, (callFunc g args).run Try.prog w = .ok (.enter g args) w)
    (hr : Kd.C k41 w A l.length l) (hp : ∀ (x : S41) W, Below w.heap.size w W → x ∈ l → Calls Try.prog g (#[.agg #[.int .i64 x.f0, .int .i64 x.f1, .int .i64 x.f2, .bool x.f3]] ++ lb) W fun e W' => e = .returned (.bool (p x)) ∧ Below W.heap.size W W') :
    Calls Try.prog 44 #[.slice A l.length c, .func (.func g) #[] lb] w fun e w' => e = .returned (.int .i64 (idxL p l)) ∧ Below w.heap.size w w' := by
  have hl : l.length ≤ 9223372036854775807 := hr.2.1
  have HR := Aside0.mk hr
  have HP := Aside0.mk hp
  clear hr hp
  go_enter Try.func44, Try.ntmps44
  go_wp2
  go_loopg [5, 8] l.length (fun gg _ s8 wr => ∃ kk : Nat, kk ≤ l.length ∧ l.length - kk ≤ gg ∧ s8 = .int .i64 kk ∧ Aside0 (Below w.heap.size w wr) ∧ Aside0 (∀ j (h : j < l.length), j < kk → p (l[j]'h) = false))
  case atStart => exact ⟨0, Nat.zero_le _, by omega, rfl, ⟨Below.refl _ _⟩, ⟨fun j _ hj => absurd hj (Nat.not_lt_zero _)⟩⟩
  case round =>
    obtain ⟨kk, hkk, hg, rfl, HB, HA⟩ := hrel
    by_cases hlt : kk < l.length
    · have hlt' : (kk : Int) < (l.length : Int) := by omega
      have hw0 : w.heap.size ≤ wr.heap.size := HB.out.size
      obtain ⟨ad, rfl, h0, h1, h2, h3⟩ := at_T41 (Kd.C_below HR.out HB.out) (kk : Int) (by omega) (by omega)
      rw [rd_link l kk hlt, Int.toNat_natCast] at h0 h1 h2 h3
      have hcall := HP.out (l[kk]'hlt) wr HB.out (List.getElem_mem hlt)
      generalize hx : l[kk]'hlt = x at h0 h1 h2 h3 hcall
      have HX := Aside0.mk hx
      clear hx
      have HC := Aside0.mk hcall
      clear hcall
      cases hq : p x with
      | true =>
        have HQ := Aside0.mk hq
        clear hq
        go_wp2_with fail
        refine HC.out.mono ?_
        rintro e w' ⟨rfl, hb⟩
        rw [HQ.out]
        have HB2 := Aside0.mk (below_then HB.out hw0 hb)
        clear hb
        go_wp2
        go_ret
        refine ⟨?_, HB2.out⟩
        rw [idxL_hit p l kk hlt (by rw [HX.out]; exact HQ.out) HA.out]
        rfl
      | false =>
        have HQ := Aside0.mk hq
        clear hq
        go_wp2_with fail
        refine HC.out.mono ?_
        rintro e w' ⟨rfl, hb⟩
        rw [HQ.out]
        have HB2 := Aside0.mk (below_then HB.out hw0 hb)
        clear hb
        go_wp2
        go_roundg (l.length - (kk + 1))
        case measure => omega
        case rel =>
          refine ⟨kk + 1, by omega, by omega, by go_num, HB2, ⟨fun j h hj => ?_⟩⟩
          by_cases e : j = kk
          · subst e
            rw [HX.out]
            exact HQ.out
          · exact HA.out j h (by omega)
    · have hlt' : ¬ (kk : Int) < (l.length : Int) := by omega
      have : kk = l.length := by omega
      subst this
      go_wp2
      go_ret
      refine ⟨?_, HB.out⟩
      rw [idxL_miss p l (fun j h => HA.out j h h)]
      rfl

/-! ### graph_spread: function 25, by hand (graph.spread.lean.tpl) -/
def marksV (m : List Bool) : Array Value := (m.map Value.bool).toArray
theorem marks_at (m : List Bool) (k : Nat) (h : k < m.length) : (marksV m)[k]? = some (.bool (m.getD k false)) := by
  unfold marksV
  simp [List.getD_eq_getElem?_getD, List.getElem?_eq_getElem h]
/-! #### what is reached, breadth first -/
def overTo (l : S41) (n : Int) : Option Int := if n = l.f0 then some l.f1 else if n = l.f1 then some l.f0 else none
def visit (p : Nat → Bool) (a : Int) (i : Nat) (l : S41) (s : List Bool × List Int) : List Bool × List Int :=
  match overTo l a with
  | some b => if p i = true ∧ s.1.getD b.toNat false = false then (s.1.set b.toNat true, s.2 ++ [b]) else s
  | none => s
def visitTo (p : Nat → Bool) (a : Int) (ls : List (S41)) (s : List Bool × List Int) : Nat → List Bool × List Int
  | 0 => s
  | i + 1 => visit p a i (rd_T41 ls (i : Int)) (visitTo p a ls s i)
def bfs (p : Nat → Bool) (ls : List (S41)) : Nat → List Bool × List Int → List Bool
  | 0, s => s.1
  | k + 1, s => match s.2 with
    | [] => s.1
    | a :: q => bfs p ls k (visitTo p a ls (s.1, q) ls.length)
def noMarks : List Bool := List.replicate 32 false
def spreadF (n : Int) (ls : List (S41)) (p : Nat → Bool) (a : Int) : List Bool := if a < 0 ∨ a ≥ n then noMarks else bfs p ls 33 (noMarks.set a.toNat true, [a])
def OkL (ls : List (S41)) : Prop := ∀ l, l ∈ ls → (0 ≤ l.f0 ∧ l.f0 < 32) ∧ (0 ≤ l.f1 ∧ l.f1 < 32)
def Good (s : List Bool × List Int) : Prop := s.1.length = 32 ∧ ∀ x, x ∈ s.2 → 0 ≤ x ∧ x < 32
theorem over_range {l : S41} {a b : Int} (h : (0 ≤ l.f0 ∧ l.f0 < 32) ∧ (0 ≤ l.f1 ∧ l.f1 < 32)) (ho : overTo l a = some b) : 0 ≤ b ∧ b < 32 := by
  unfold overTo at ho
  split at ho
  · obtain rfl := Option.some.inj ho; exact h.2
  · split at ho
    · obtain rfl := Option.some.inj ho; exact h.1
    · cases ho
theorem count_mark (m : List Bool) (i : Nat) (hi : i < m.length) (h : m.getD i false = false) : (m.set i true).count true = m.count true + 1 := by
  rw [List.getD_eq_getElem?_getD, List.getElem?_eq_getElem hi, Option.getD_some] at h
  rw [List.count_set hi]
  simp [h]
theorem visit_good {p : Nat → Bool} {a : Int} {i : Nat} {l : S41} {s : List Bool × List Int} (hl : (0 ≤ l.f0 ∧ l.f0 < 32) ∧ (0 ≤ l.f1 ∧ l.f1 < 32)) (hs : Good s) : Good (visit p a i l s) ∧ (visit p a i l s).1.count true + s.2.length = s.1.count true + (visit p a i l s).2.length := by
  unfold visit
  cases ho : overTo l a with
  | none => exact ⟨hs, rfl⟩
  | some b =>
    have hb := over_range hl ho
    simp only
    split
    · rename_i h
      refine ⟨⟨by simpa using hs.1, fun x hx => ?_⟩, ?_⟩
      · rcases List.mem_append.1 hx with hx | hx
        · exact hs.2 x hx
        · obtain rfl := List.mem_singleton.1 hx; exact hb
      · simp only [List.length_append, List.length_singleton]
        rw [count_mark s.1 b.toNat (by rw [hs.1]; omega) h.2]
        omega
    · exact ⟨hs, rfl⟩
theorem visitTo_good {p : Nat → Bool} {a : Int} {ls : List (S41)} {s : List Bool × List Int} (hl : OkL ls) (hs : Good s) : ∀ i, i ≤ ls.length → Good (visitTo p a ls s i) ∧ (visitTo p a ls s i).1.count true + s.2.length = s.1.count true + (visitTo p a ls s i).2.length := by
  intro i
  induction i with
  | zero => exact fun _ => ⟨hs, rfl⟩
  | succ i ih =>
    intro hi
    obtain ⟨h1, h2⟩ := ih (by omega)
    have h3 := visit_good (p := p) (a := a) (i := i) (l := rd_T41 ls (i : Int)) (hl _ (by rw [rd_link ls i (by omega)]; exact List.getElem_mem _)) h1
    refine ⟨h3.1, ?_⟩
    have h4 := h3.2
    show (visit p a i _ _).1.count true + s.2.length = s.1.count true + (visit p a i _ _).2.length
    omega
theorem results_cell {fn : Func} {t : Tmp} {ty : TypeId} (h : fn.results = #[.cell t ty]) (tmps : Array Value) (P : Program) (w : World) {a : Addr} {v : Value} (hx : tmps.getD t undef = .pointer (some a)) (hl : (loadVar ty a).run P w = .ok v w) :
    (results fn tmps).run P w = .ok v w := by
  have hx2 : tmps[t]?.getD undef = .pointer (some a) := by simpa using hx
  unfold results
  simp [h, hx2, hl, asAddr, Sem.run_bind, Result.andThen]
theorem noMarks_at (a : Nat) : noMarks.getD a false = false := by
  unfold noMarks
  rw [List.getD_eq_getElem?_getD, List.getElem?_replicate]
  split <;> rfl
theorem marks_put (m : List Bool) (a : Nat) (b : Bool) : (marksV m).setIfInBounds a (.bool b) = marksV (m.set a b) := by
  unfold marksV
  rw [List.setIfInBounds_toArray, List.map_set]
theorem marks_size (m : List Bool) : (marksV m).size = m.length := by simp [marksV]
theorem marks_one (m : List Bool) : (marksV m).all (·.oneCell') = true := by
  unfold marksV
  rw [Array.all_eq_true']
  intro x hx
  simp only [List.mem_toArray, List.mem_map] at hx
  obtain ⟨b, _, rfl⟩ := hx
  rfl
theorem bfs_end (p : Nat → Bool) (ls : List (S41)) (k : Nat) (m : List Bool) : bfs p ls k (m, []) = m := by cases k <;> rfl
theorem over_none {l : S41} {x : Int} (h : overTo l x = none) : graph_over.f l.f0 l.f1 l.f2 l.f3 x = some (0, false) := by
  unfold overTo at h
  unfold graph_over.f
  split at h
  · cases h
  · split at h
    · cases h
    · rw [if_neg (by assumption), if_neg (by assumption)]
theorem over_some {l : S41} {x b : Int} (h : overTo l x = some b) : graph_over.f l.f0 l.f1 l.f2 l.f3 x = some (b, true) := by
  unfold overTo at h
  unfold graph_over.f
  split at h
  · rw [if_pos (by assumption), Option.some.inj h]
  · split at h
    · rw [if_neg (by assumption), if_pos (by assumption), Option.some.inj h]
    · cases h
/-- What the walk of 'spread' keeps: the graph's box, the result's row (untouched), the marks, the queue. -/
structure SpRel (w : World) (n : Int) (A : Option Addr) (c : Nat) (ls : List (S41)) (m : List Bool) (q : List Int) (v : Value) (wr : World) : Prop where
  hB : Below w.heap.size w wr
  h0 : wr.heap[w.heap.size]? = some (.cells #[.int .i64 n, .slice A ls.length c] 24 (0, 0))
  h1 : wr.heap[w.heap.size + 1]? = some (.cells (marksV noMarks) 54 (0, 0))
  h2 : wr.heap[w.heap.size + 1 + 1]? = some (.cells (marksV m) 54 (0, 0))
  hq : Kd.Q (Kd.int .i64) 3 wr (w.heap.size + 3) (fun _ => True) v q
theorem SpRel.below {w : World} {n : Int} {A : Option Addr} {c : Nat} {ls : List (S41)} {m : List Bool} {q : List Int} {v : Value} {wr wr' : World} (h : SpRel w n A c ls m q v wr) (hb : Below wr.heap.size wr wr') : SpRel w n A c ls m q v wr' :=
  ⟨below_then h.hB h.hB.size hb, blk_below h.h0 hb, blk_below h.h1 hb, blk_below h.h2 hb, Kd.Q_below h.hq hb⟩
theorem SpRel.mark {w : World} {n : Int} {A : Option Addr} {c : Nat} {ls : List (S41)} {m : List Bool} {q : List Int} {v : Value} {wr : World} (h : SpRel w n A c ls m q v wr) (a : Nat) : SpRel w n A c ls (m.set a true) q v (wr.setCell ⟨w.heap.size + 1 + 1, a, none⟩ (.bool true)) :=
  ⟨h.hB.setCell (by show w.heap.size ≤ w.heap.size + 1 + 1; omega) _, blk_far h.h0 (by show w.heap.size ≠ w.heap.size + 1 + 1; omega) _, blk_far h.h1 (by show w.heap.size + 1 ≠ w.heap.size + 1 + 1; omega) _, by rw [← marks_put]; exact blk_set h.h2 a _, Kd.Q_set h.hq h.h2 (by decide) _ _⟩
theorem SpRel.grown {w : World} {n : Int} {A : Option Addr} {c : Nat} {ls : List (S41)} {m : List Bool} {q q' : List Int} {v v' : Value} {wr wr' : World} (h : SpRel w n A c ls m q v wr) (hg : wr.grownBy wr' v.ownBlock) (hq : Kd.Q (Kd.int .i64) 3 wr' (w.heap.size + 3) (fun _ => True) v' q') : SpRel w n A c ls m q' v' wr' :=
  ⟨pw_below_grown h.hB _ h.hB.size hg (fun k hk => by have := Kd.Q_base h.hq k hk; omega), blk_grown h.h0 hg (Kd.Q_ne h.hq h.h0 (by decide)), blk_grown h.h1 hg (Kd.Q_ne h.hq h.h1 (by decide)), blk_grown h.h2 hg (Kd.Q_ne h.hq h.h2 (by decide)), hq⟩
theorem SpRel.size {w : World} {n : Int} {A : Option Addr} {c : Nat} {ls : List (S41)} {m : List Bool} {q : List Int} {v : Value} {wr : World} (h : SpRel w n A c ls m q v wr) : w.heap.size + 3 ≤ wr.heap.size := by
  have := blk_lt h.h2
  omega
set_option maxHeartbeats 800000 in
set_option maxRecDepth 100000 in
theorem spread_in (g : Nat) (lb : Array Value) (p : Nat → Bool) (n : Int) (a : Nat) (A : Option Addr) (c : Nat) (ls : List (S41)) (w : World) (eg : ∀ args w, (callFunc g args).run Try.prog w = .ok (.enter g args) w)
    (hr : Kd.C k41 w A ls.length ls) (hok : OkL ls) (hn : n ≤ 32) (h1 : ¬ (a : Int) < 0) (h2 : ¬ (a : Int) ≥ n) (hlen : ls.length ≤ 1000000) (hp : ∀ (i : Nat) W, Below w.heap.size w W → i < ls.length → Calls Try.prog g (#[.int .i64 (i : Int)] ++ lb) W fun e W' => e = .returned (.bool (p i)) ∧ Below W.heap.size W W') :
    Calls Try.prog 25 #[.agg #[.int .i64 n, .slice A ls.length c], .int .i64 (a : Int), .func (.func g) #[] lb] w fun e w' => e = .returned (.agg (marksV (bfs p ls 33 (noMarks.set a true, [(a : Int)])))) ∧ Below w.heap.size w w' := by
  have HR := Aside0.mk hr
  have HP := Aside0.mk hp
  have HOK := Aside0.mk hok
  have HEG := Aside0.mk eg
  clear hr hp hok eg
  have hz : (Try.prog.info? 54).map (·.size) = some (marksV noMarks).size := by kernel_rfl
  have hall : (marksV noMarks).all (·.oneCell') = true := by kernel_rfl
  have HZ := Aside0.mk hz
  have HALL := Aside0.mk hall
  clear hz hall
  go_enter Try.func25, Try.ntmps25
  go_wp2_with ((with_reducible refine gate_dst (N := 24) rfl ?_); generalize hW : (World.alloc _ _) = W; refine Stop0.out ?_)
  have hb0 : W.heap[w.heap.size]? = some (.cells #[.int .i64 n, .slice A ls.length c] 24 (0, 0)) := (by rw [← hW]; exact blk_alloc (blk_alloc (blk_new w (.cells #[.int .i64 n, .slice A ls.length c] 24)) (.cells (marksV noMarks) 54)) (.cells (marksV noMarks) 54))
  have hb2 : W.heap[w.heap.size + 1 + 1]? = some (.cells (marksV noMarks) 54 (0, 0)) := (by rw [← hW]; have := blk_new ((w.alloc (.cells #[.int .i64 n, .slice A ls.length c] 24)).alloc (.cells (marksV noMarks) 54)) (.cells (marksV noMarks) 54); rw [World.size_alloc, World.size_alloc] at this; exact this)
  have hb1 : W.heap[w.heap.size + 1]? = some (.cells (marksV noMarks) 54 (0, 0)) := (by rw [← hW]; have := blk_alloc (blk_new (w.alloc (.cells #[.int .i64 n, .slice A ls.length c] 24)) (.cells (marksV noMarks) 54)) (.cells (marksV noMarks) 54); rw [World.size_alloc] at this; exact this)
  have HW := Aside0.mk (show Below w.heap.size w W from by rw [← hW]; exact below_alloc (below_alloc (below_alloc (Below.refl _ _) _) _) _)
  have hsz : w.heap.size + 3 = W.heap.size := by rw [← hW, World.size_alloc, World.size_alloc, World.size_alloc]
  have HB0 := Aside0.mk hb0
  have HB1 := Aside0.mk hb1
  have HB2 := Aside0.mk hb2
  have HSZ := Aside0.mk hsz
  clear hb0 hb1 hb2 hW hsz
  refine ⟨?_⟩
  refine Kd.R_lit (Kd.int .i64) (w.heap.size + 3) 3 ?hg (N := 24) ?hd (w0 := W) (xs := [(a : Int)]) (inner := [.int .i64 (a : Int)]) (ok := fun _ => True) (okp := fun _ => True) ?hr ?hp (fun _ hk => hk) trivial (Below.refl _ _) (Nat.le_of_eq HSZ.out) (by simp) ?_
  case hg => rfl
  case hd => rfl
  case hr => first | (go_simp; done) | (go_simp; rfl)
  case hp => exact Reps.one rfl (Reps.none _ _)
  intro v1 w1 ho hb hg_ hnew_
  rw [HSZ.out] at hb
  have c2 : w1.cell? ⟨w.heap.size + 1 + 1, a, none⟩ = some (.bool false) := (blk_cell (blk_below HB2.out hb) a).trans ((marks_at _ _ (by show a < 32; omega)).trans (by rw [noMarks_at]))
  have f2 : w1.frozen? ⟨w.heap.size + 1 + 1, a, none⟩ = false := blk_frozen (blk_below HB2.out hb) a
  have h32 : (a : Int) < 32 := by omega
  have HS := Aside0.mk (SpRel.mark (a := a) (⟨below_then HW.out HW.out.size hb, blk_below HB0.out hb, blk_below HB1.out hb, blk_below HB2.out hb, Kd.Q_of_R ho⟩ : SpRel w n A c ls noMarks [(a : Int)] v1 w1))
  clear ho hb hg_ hnew_ h1 h2 HB0 HB1 HB2 HW HSZ
  have ha0 : 0 ≤ (a : Int) := by omega
  go_wp2
  clear c2 f2
  generalize (w1.setCell _ _) = w2 at HS ⊢
  have HG := Aside0.mk (show Good (noMarks.set a true, [(a : Int)]) from ⟨by simp [noMarks], fun x hx => by obtain rfl := List.mem_singleton.1 hx; exact ⟨ha0, h32⟩⟩)
  have HE := Aside0.mk (rfl : bfs p ls 33 (noMarks.set a true, [(a : Int)]) = bfs p ls 33 (noMarks.set a true, [(a : Int)]))
  have HM := Aside0.mk (show 1 + 32 ≤ 33 + (noMarks.set a true).count true ∧ 1 ≤ (noMarks.set a true).count true from ⟨by omega, by rw [count_mark noMarks a (by simp [noMarks]; omega) (noMarks_at a)]; omega⟩)
  go_loopg [8] 33 (fun gg s8 wr => ∃ k m q, k ≤ gg ∧ Aside0 (SpRel w n A c ls m q s8 wr) ∧ Aside0 (Good (m, q)) ∧ Aside0 (q.length + 32 ≤ k + m.count true ∧ q.length ≤ m.count true) ∧ Aside0 (bfs p ls k (m, q) = bfs p ls 33 (noMarks.set a true, [(a : Int)])))
  case atStart => exact ⟨33, _, _, Nat.le_refl _, HS, HG, HM, HE⟩
  case round =>
    clear HS HG HM HE
    obtain ⟨k, m, q, hk, HS, HG, HM, HE⟩ := hrel
    cases q with
    | nil =>
      obtain ⟨A8, c8, rfl, _⟩ := Kd.Q_slice HS.out.hq
      go_wp2_with ((with_reducible refine gate_dst (N := 68) rfl ?_); refine Stop0.out ?_)
      refine ⟨?_⟩
      have hz2 : (Try.prog.info? 54).map (·.size) = some (marksV m).size := by rw [HZ.out, marks_size, marks_size, HG.out.1]; simp [noMarks]
      have hb2 := HS.out.h2
      have hb1 := HS.out.h1
      refine wpList_load_row rfl 54 (.tmp 7) rfl (w.heap.size + 1 + 1) rfl 54 (marksV m) (0, 0) _ hb2 Try.underlying54 rfl hz2 ?_
      refine wpList_store_row rfl 54 (.tmp 6) (.tmp 68) rfl (w.heap.size + 1) (marksV m) rfl rfl 54 (marksV noMarks) hb1 hz2 (by rw [marks_size, marks_size, HG.out.1]; simp [noMarks]) (marks_one m) ?_
      have hfin := run_loadVar_row (P := Try.prog) (wr.setRow (w.heap.size + 1) (marksV m)) (w.heap.size + 1) 54 54 (marksV m) (0, 0) _ (setRow_heap wr _ _ _ _ _ hb1) Try.underlying54 rfl hz2
      have HFIN := Aside0.mk hfin
      have HE2 := Aside0.mk ((bfs_end p ls k m).symm.trans HE.out)
      clear hfin hz2 hb2 hb1
      go_wp2
      refine bodyPost_ret (v := .agg (marksV m)) ?_ rfl ⟨?_, ?_⟩
      · exact results_cell Try.results25 _ _ _ rfl HFIN.out
      · rw [HE2.out]
      · exact below_setRow HS.out.hB (by omega) _
    | cons x q =>
      obtain ⟨g1, o1, cap, rfl, hg1, hg1', -⟩ := Kd.Q_form HS.out.hq (by simp)
      obtain ⟨c1, f1⟩ := Kd.Q_cell 0 HS.out.hq 0 (by omega) (by simp)
      obtain ⟨k, rfl⟩ : ∃ k', k = k' + 1 := ⟨k - 1, by have := HM.out; have := List.count_le_length (a := true) (l := m); have := HG.out.1; simp only [List.length_cons] at *; omega⟩
      replace c1 : wr.cell? ⟨g1, o1, none⟩ = some (.int .i64 x) := c1
      replace f1 : wr.frozen? ⟨g1, o1, none⟩ = false := f1
      have hcut := cut_from (P := Try.prog) 25 3 .i64 Try.underlying25 (i := _) rfl 1 rfl (some ⟨g1, o1, none⟩) (x :: q).length cap 1 (by omega) (by simp only [List.length_cons]; omega)
      have hdr := Kd.Q_drop (k := 1) HS.out.hq (by simp)
      rw [show ((1 : Int).toNat) = 1 from rfl] at hcut
      rw [show (Kd.int IntKind.i64).sz = 1 from rfl] at hdr
      generalize (if cap = 1 then some (⟨g1, o1, none⟩ : Addr) else Option.map (fun z : Addr => z.add (1 * 1)) (some (⟨g1, o1, none⟩ : Addr))) = A2 at hcut hdr
      rw [show (x :: q).length - 1 = q.length from rfl] at hcut hdr
      rw [show (x :: q).drop 1 = q from rfl] at hdr
      have hl0 : (0 : Int) < ((x :: q).length : Int) := by simp only [List.length_cons]; omega
      generalize (cap - 1) = cap2 at hcut hdr
      have HQ2 := Aside0.mk (⟨HS.out.hB, HS.out.h0, HS.out.h1, HS.out.h2, hdr⟩ : SpRel w n A c ls m q (.slice A2 q.length cap2) wr)
      have cB : wr.cell? ⟨w.heap.size, 1, none⟩ = some (.slice A ls.length c) := blk_cell HS.out.h0 1
      clear HS hdr
      generalize hL : ((x :: q).length) = L at hcut hl0 ⊢
      have hl1 : decide ((L : Int) > 0) = true := decide_eq_true hl0
      have hl2 : decide (0 < L) = true := decide_eq_true (by omega)
      clear hL hg1 hg1'
      go_wp2
      clear hcut hl0 hl1 hl2 c1 f1 cB
      have HG2 := Aside0.mk (show Good (m, q) from ⟨HG.out.1, fun y hy => HG.out.2 y (List.mem_cons_of_mem _ hy)⟩)
      have hx := HG.out.2 x (List.mem_cons_self ..)
      go_loopg [8, 38] ls.length (fun gg s8 s38 wr2 => ∃ i : Nat, i ≤ ls.length ∧ ls.length - i ≤ gg ∧ s38 = .int .i64 i ∧ Aside0 (SpRel w n A c ls (visitTo p x ls (m, q) i).1 (visitTo p x ls (m, q) i).2 s8 wr2))
      case atStart => exact ⟨0, Nat.zero_le _, by omega, rfl, HQ2⟩
      case round =>
        clear HQ2
        obtain ⟨i, hi, hgg, rfl, HS⟩ := hrel
        have hvg := visitTo_good (p := p) (a := x) HOK.out HG2.out i hi
        by_cases hlt : i < ls.length
        · have hlt' : (i : Int) < (ls.length : Int) := by omega
          obtain ⟨ad, rfl, e0, e1, e2, e3⟩ := at_T41 (Kd.C_below HR.out HS.out.hB) (i : Int) (by omega) (by omega)
          have HV := Aside0.mk (show visitTo p x ls (m, q) (i + 1) = visit p x i (rd_T41 ls (i : Int)) (visitTo p x ls (m, q) i) from rfl)
          rw [Int.toNat_natCast] at e0 e1 e2 e3
          have hok := HOK.out (rd_T41 ls (i : Int)) (by rw [rd_link ls i hlt]; exact List.getElem_mem _)
          generalize rd_T41 ls (i : Int) = l at HV e0 e1 e2 e3 hok
          generalize hst : visitTo p x ls (m, q) i = st at HV HS hvg
          have HST := Aside0.mk hst
          have HVG := Aside0.mk hvg
          clear hst hvg
          obtain ⟨ms, qs⟩ := st
          go_wp2_with (go_at_call 35; refine Stop0.out ?_)
          refine ⟨?_⟩
          have eg := HEG.out
          cases hov : overTo l x with
          | none =>
            have HN := Aside0.mk (show visit p x i l (ms, qs) = (ms, qs) by unfold visit; rw [hov])
            refine (graph_over.calls l.f0 l.f1 l.f2 l.f3 x 0 false _ (over_none hov)).mono ?_
            rintro e w' ⟨rfl, hb⟩
            have HS2 := Aside0.mk ((HS.out.below (below_alloc (Below.refl _ _) _)).below hb)
            clear hb HS e0 e1 e2 e3 hov
            go_wp2
            go_roundg (ls.length - (i + 1))
            case measure => omega
            case rel => exact ⟨i + 1, by omega, by omega, by go_num, ⟨by rw [HV.out, HN.out]; exact HS2.out⟩⟩
          | some b =>
            have hb32 := over_range hok hov
            obtain ⟨bn, rfl⟩ : ∃ bn : Nat, b = bn := ⟨b.toNat, by omega⟩
            refine (graph_over.calls l.f0 l.f1 l.f2 l.f3 x (bn : Int) true _ (over_some hov)).mono ?_
            rintro e w' ⟨rfl, hb⟩
            have HS2 := Aside0.mk ((HS.out.below (below_alloc (Below.refl _ _) _)).below hb)
            have HO := Aside0.mk hov
            clear hb HS e0 e1 e2 e3 hov
            go_wp2_with fail
            refine (HP.out i _ HS2.out.hB hlt).mono ?_
            rintro e w3 ⟨rfl, hb⟩
            have HS3 := Aside0.mk (HS2.out.below hb)
            clear hb HS2
            have hb1 : (bn : Int) < 32 := hb32.2
            have hb0 : 0 ≤ (bn : Int) := hb32.1
            have hlen32 := HVG.out.1.1
            have c2 : w3.cell? ⟨w.heap.size + 1 + 1, bn, none⟩ = some (.bool (ms.getD bn false)) := (blk_cell HS3.out.h2 bn).trans (marks_at _ _ (by simp only at hlen32; omega))
            have f2 : w3.frozen? ⟨w.heap.size + 1 + 1, bn, none⟩ = false := blk_frozen HS3.out.h2 bn
            clear hlen32 hb32
            cases hpi : p i with
            | false =>
              have HN := Aside0.mk (show visit p x i l (ms, qs) = (ms, qs) by unfold visit; rw [HO.out]; simp only; rw [if_neg (by rw [hpi]; simp)])
              clear hpi c2 f2
              go_wp2
              go_roundg (ls.length - (i + 1))
              case measure => omega
              case rel => exact ⟨i + 1, by omega, by omega, by go_num, ⟨by rw [HV.out, HN.out]; exact HS3.out⟩⟩
            | true =>
              cases hmb : ms.getD bn false with
              | true =>
                rw [hmb] at c2
                have HN := Aside0.mk (show visit p x i l (ms, qs) = (ms, qs) by unfold visit; rw [HO.out]; simp only [Int.toNat_natCast]; rw [if_neg (by rw [hmb]; simp)])
                clear hpi hmb
                go_wp2
                clear c2 f2
                go_roundg (ls.length - (i + 1))
                case measure => omega
                case rel => exact ⟨i + 1, by omega, by omega, by go_num, ⟨by rw [HV.out, HN.out]; exact HS3.out⟩⟩
              | false =>
                rw [hmb] at c2
                have HN := Aside0.mk (show visit p x i l (ms, qs) = (ms.set bn true, qs ++ [(bn : Int)]) by unfold visit; rw [HO.out]; simp only [Int.toNat_natCast]; rw [if_pos ⟨hpi, hmb⟩])
                have hql : qs.length ≤ 1000000 := by
                  have h1 := HVG.out
                  have h2 := HM.out
                  have := List.count_le_length (a := true) (l := ms)
                  have := h1.1.1
                  simp only [List.length_cons] at *
                  omega
                clear hpi hmb
                go_wp2_with ((with_reducible refine gate_dst (N := 65) rfl ?_); refine Stop0.out ?_)
                clear c2 f2
                refine ⟨?_⟩
                have HS4 := Aside0.mk (HS3.out.mark bn)
                generalize (w3.setCell _ _) = w4 at HS4 ⊢
                go_wp2_with ((with_reducible refine gate_builtin (b := .append) (xs := #[.tmp 63, .tmp 65]) rfl ?_); refine Stop0.out ?_)
                refine ⟨?_⟩
                refine Kd.Q_append (Kd.int .i64) (w0 := w4) (w.heap.size + 3) rfl (.tmp 63) (.tmp 65) 25 3 (.int .i64 0) 8 rfl Try.underlying25 info3 rfl (by decide) (by omega) u8 qs (bn : Int) [.int .i64 (bn : Int)] (fun _ => True) (fun _ => False) rfl rfl rfl (fun _ h => h.elim) (fun _ _ => trivial) HS4.out.hq (Below.refl _ _) (SpRel.size HS4.out) (by omega) ?_
                intro v5 w5 r1 r2 r3 _
                have HS5 := Aside0.mk (HS4.out.grown r3 r1)
                clear HS4 r1 r2 r3
                go_wp2
                go_roundg (ls.length - (i + 1))
                case measure => omega
                case rel => exact ⟨i + 1, by omega, by omega, by go_num, ⟨by rw [HV.out, HN.out]; exact HS5.out⟩⟩
        · have : i = ls.length := by omega
          subst this
          have hlt' : ¬ (ls.length : Int) < (ls.length : Int) := by omega
          have HVG := Aside0.mk hvg
          clear hvg
          go_wp2
          go_roundg k
          case measure => omega
          case rel =>
            refine ⟨k, _, _, Nat.le_refl _, HS, ⟨HVG.out.1⟩, ⟨?_⟩, ⟨HE.out⟩⟩
            have h1 := HVG.out.2
            have h2 := HM.out
            simp only [List.length_cons] at h2
            exact ⟨by omega, by omega⟩
set_option maxHeartbeats 800000 in
set_option maxRecDepth 100000 in
theorem spread_calls (g : Nat) (lb : Array Value) (p : Nat → Bool) (n a : Int) (A : Option Addr) (c : Nat) (ls : List (S41)) (w : World) (eg : ∀ args w, (callFunc g args).run Try.prog w = .ok (.enter g args) w)
    (hr : Kd.C k41 w A ls.length ls) (hok : OkL ls) (hn : n ≤ 32) (hlen : ls.length ≤ 1000000) (hp : ∀ (i : Nat) W, Below w.heap.size w W → i < ls.length → Calls Try.prog g (#[.int .i64 (i : Int)] ++ lb) W fun e W' => e = .returned (.bool (p i)) ∧ Below W.heap.size W W') :
    Calls Try.prog 25 #[.agg #[.int .i64 n, .slice A ls.length c], .int .i64 a, .func (.func g) #[] lb] w fun e w' => e = .returned (.agg (marksV (spreadF n ls p a))) ∧ Below w.heap.size w w' := by
  have HR := Aside0.mk hr
  have HP := Aside0.mk hp
  have HOK := Aside0.mk hok
  clear hr hp hok
  have hz : (Try.prog.info? 54).map (·.size) = some (marksV noMarks).size := by kernel_rfl
  have hall : (marksV noMarks).all (·.oneCell') = true := by kernel_rfl
  have HZ := Aside0.mk hz
  have HALL := Aside0.mk hall
  clear hz hall
  by_cases h1 : a < 0
  · go_enter Try.func25, Try.ntmps25
    -- the world is generalized at the gate: its heap is told by facts, not by its text
    go_wp2_with (first
      | ((with_reducible refine gate_dst (N := 22) rfl ?_); generalize hW : (World.alloc _ _) = W; have hb : W.heap[w.heap.size + 1 + 1]? = some (.cells (marksV noMarks) 54 (0, 0)) := (by rw [← hW]; have := blk_new ((w.alloc (.cells #[.int .i64 n, .slice A ls.length c] 24)).alloc (.cells (marksV noMarks) 54)) (.cells (marksV noMarks) 54); rw [World.size_alloc, World.size_alloc] at this; exact this); have hb1 : W.heap[w.heap.size + 1]? = some (.cells (marksV noMarks) 54 (0, 0)) := (by rw [← hW]; have := blk_alloc (blk_new (w.alloc (.cells #[.int .i64 n, .slice A ls.length c] 24)) (.cells (marksV noMarks) 54)) (.cells (marksV noMarks) 54); rw [World.size_alloc] at this; exact this); have HW := Aside0.mk (show Below w.heap.size w W from by rw [← hW]; exact below_alloc (below_alloc (below_alloc (Below.refl _ _) _) _) _); have HB1 := Aside0.mk hb1; clear hb1; clear hW; refine wpList_load_row rfl 54 (.tmp 7) rfl (w.heap.size + 1 + 1) rfl 54 (marksV noMarks) (0, 0) _ hb Try.underlying54 rfl HZ.out ?_)
      | ((with_reducible refine gate_store (t := 54) (p := 6) (v := .tmp 22) rfl ?_); refine wpList_store_row rfl 54 (.tmp 6) (.tmp 22) rfl (w.heap.size + 1) (marksV noMarks) rfl rfl 54 (marksV noMarks) HB1.out HZ.out rfl HALL.out ?_))
    have hfin := run_loadVar_row (P := Try.prog) (W.setRow (w.heap.size + 1) (marksV noMarks)) (w.heap.size + 1) 54 54 (marksV noMarks) (0, 0) _ (setRow_heap W _ _ _ _ _ HB1.out) Try.underlying54 rfl HZ.out
    refine bodyPost_ret (v := .agg (marksV noMarks)) ?_ rfl ⟨?_, ?_⟩
    · exact results_cell Try.results25 _ _ _ rfl hfin
    · rw [spreadF, if_pos (.inl h1)]
    · exact below_setRow HW.out (by omega) _
  · by_cases h2 : a ≥ n
    · go_enter Try.func25, Try.ntmps25
      -- the world is generalized at the gate: its heap is told by facts, not by its text
      go_wp2_with (first
        | ((with_reducible refine gate_dst (N := 22) rfl ?_); generalize hW : (World.alloc _ _) = W; have hb : W.heap[w.heap.size + 1 + 1]? = some (.cells (marksV noMarks) 54 (0, 0)) := (by rw [← hW]; have := blk_new ((w.alloc (.cells #[.int .i64 n, .slice A ls.length c] 24)).alloc (.cells (marksV noMarks) 54)) (.cells (marksV noMarks) 54); rw [World.size_alloc, World.size_alloc] at this; exact this); have hb1 : W.heap[w.heap.size + 1]? = some (.cells (marksV noMarks) 54 (0, 0)) := (by rw [← hW]; have := blk_alloc (blk_new (w.alloc (.cells #[.int .i64 n, .slice A ls.length c] 24)) (.cells (marksV noMarks) 54)) (.cells (marksV noMarks) 54); rw [World.size_alloc] at this; exact this); have HW := Aside0.mk (show Below w.heap.size w W from by rw [← hW]; exact below_alloc (below_alloc (below_alloc (Below.refl _ _) _) _) _); have HB1 := Aside0.mk hb1; clear hb1; clear hW; refine wpList_load_row rfl 54 (.tmp 7) rfl (w.heap.size + 1 + 1) rfl 54 (marksV noMarks) (0, 0) _ hb Try.underlying54 rfl HZ.out ?_)
        | ((with_reducible refine gate_store (t := 54) (p := 6) (v := .tmp 22) rfl ?_); refine wpList_store_row rfl 54 (.tmp 6) (.tmp 22) rfl (w.heap.size + 1) (marksV noMarks) rfl rfl 54 (marksV noMarks) HB1.out HZ.out rfl HALL.out ?_))
      have hfin := run_loadVar_row (P := Try.prog) (W.setRow (w.heap.size + 1) (marksV noMarks)) (w.heap.size + 1) 54 54 (marksV noMarks) (0, 0) _ (setRow_heap W _ _ _ _ _ HB1.out) Try.underlying54 rfl HZ.out
      refine bodyPost_ret (v := .agg (marksV noMarks)) ?_ rfl ⟨?_, ?_⟩
      · exact results_cell Try.results25 _ _ _ rfl hfin
      · rw [spreadF, if_pos (.inr h2)]
      · exact below_setRow HW.out (by omega) _
    · obtain ⟨an, rfl⟩ : ∃ an : Nat, a = an := ⟨a.toNat, by omega⟩
      rw [spreadF, if_neg (by omega), Int.toNat_natCast]
      exact spread_in g lb p n an A c ls w eg HR.out HOK.out hn h1 h2 hlen HP.out

/-! ### graph_marked_rows: function 28, by hand (graph.marked.rows.lean.tpl) -/
/-- The numbers below k that are marked. -/
def markedTo (m : List Bool) (k : Nat) : List Int := ((List.range k).filter (fun i => m.getD i false)).map (fun (i : Nat) => (i : Int))
theorem markedTo_succ (m : List Bool) (k : Nat) : markedTo m (k + 1) = if m.getD k false = true then markedTo m k ++ [(k : Int)] else markedTo m k := by
  unfold markedTo
  rw [List.range_succ, List.filter_append, List.map_append]
  by_cases h : m.getD k false = true
  · rw [if_pos h, List.filter_cons, if_pos h]; rfl
  · rw [if_neg h, List.filter_cons, if_neg h, List.filter_nil, List.map_nil, List.append_nil]
theorem markedTo_length (m : List Bool) (k : Nat) : (markedTo m k).length ≤ k := by
  unfold markedTo
  rw [List.length_map]
  exact Nat.le_trans (List.length_filter_le _ _) (by simp)
set_option maxHeartbeats 4000000 in
set_option maxRecDepth 100000 in
theorem rows_calls (m : List Bool) (hm : m.length = 32) (w : World) :
    Calls Try.prog 28 #[.agg (marksV m)] w fun e w' => ∃ v0_ : Value, e = .returned (v0_) ∧ Kd.R (Kd.int .i64) 3 w' w.heap.size (fun _ => True) v0_ (markedTo m 32) ∧ Below w.heap.size w w' := by
  have HM := Aside0.mk hm
  go_enter Try.func28, Try.ntmps28
  go_wp2
  go_loopg [3, 4, 5] 32 (fun gg s3 s4 s5 wr => ∃ kk : Nat, kk ≤ 32 ∧ 32 - kk ≤ gg ∧ s5 = .int .i64 kk ∧ Aside0 (Below w.heap.size w wr) ∧ Aside0 (wr.heap[w.heap.size]? = some (.cells (marksV m) 54 (0, 0))) ∧ Aside0 (Kd.R (Kd.int .i64) 3 wr w.heap.size (fun k => k ≠ w.heap.size) s3 (markedTo m kk)))
  case atStart => exact ⟨0, by omega, by omega, rfl, ⟨below_alloc (Below.refl _ _) _⟩, ⟨blk_new _ _⟩, ⟨(Kd.R_nil (Kd.int .i64) 3 _ _ _ : _)⟩⟩
  case round =>
    obtain ⟨kk, hkk, hgg, rfl, HL, HBr, HRr⟩ := hrel
    by_cases hlt : kk < 32
    · have hlt' : (kk : Int) < 32 := by omega
      have c0 : wr.cell? ⟨w.heap.size, kk, none⟩ = some (.bool (m.getD kk false)) := (blk_cell HBr.out kk).trans (marks_at m kk (by omega))
      cases hq : m.getD kk false with
      | true =>
        rw [hq] at c0
        have hsz : w.heap.size ≤ wr.heap.size := HL.out.size
        have HT := Aside0.mk (markedTo_succ m kk)
        have HQ := Aside0.mk hq
        have hlen := markedTo_length m kk
        clear hq
        go_wp2_with ((with_reducible refine gate_builtin (b := .append) (xs := #[.tmp 11, .tmp 13]) rfl ?_); (try (refine gate_guard (by rfl) ?_; dsimp only)); at_builtin; refine Kd.R_append (Kd.int .i64) (w0 := w) w.heap.size rfl (.tmp 11) (.tmp 13) 25 3 (.int .i64 0) 8 rfl Try.underlying25 info3 rfl (by decide) (by omega) u3 (markedTo m kk) (kk : Int) [.int .i64 kk] (fun k => k ≠ w.heap.size) (fun _ => False) rfl rfl rfl (fun _ h => h.elim) (fun k hk => by have := blk_lt HBr.out; omega) HRr.out HL.out hsz (by omega) ?_; intro v1 w1 r1 r2 r3 _; have N1 := Aside0.mk r1; have N2 := Aside0.mk r2; have N3 := Aside0.mk (blk_grown HBr.out r3 (Kd.R_ne HRr.out HBr.out (by decide))); clear r1 r2 r3)
        go_roundg (32 - (kk + 1))
        case measure => omega
        case rel => exact ⟨kk + 1, by omega, by omega, by go_num, N2, N3, ⟨by rw [HT.out, if_pos HQ.out]; exact N1.out⟩⟩
      | false =>
        rw [hq] at c0
        have HT := Aside0.mk (markedTo_succ m kk)
        have HQ := Aside0.mk hq
        clear hq
        go_wp2
        go_roundg (32 - (kk + 1))
        case measure => omega
        case rel => exact ⟨kk + 1, by omega, by omega, by go_num, HL, HBr, ⟨by rw [HT.out, if_neg (by rw [HQ.out]; simp)]; exact HRr.out⟩⟩
    · have : kk = 32 := by omega
      subst this
      go_wp2
      go_ret
      exact ⟨_, rfl, Kd.R_mono HRr.out (fun _ _ => trivial), HL.out⟩

/-! ### slices_IndexFunc_int_int: function 43, by hand (slices.IndexFunc.int.lean.tpl) -/
/-- The place of the first number of which p holds; -1: there is none. -/
def idxF (p : Int → Bool) (l : List Int) : Int := if l.any p then (l.findIdx p : Int) else -1
theorem idxF_hit (p : Int → Bool) (l : List Int) (k : Nat) (hk : k < l.length) (h1 : p (l[k]'hk) = true) (h0 : ∀ j (h : j < l.length), j < k → p (l[j]'h) = false) : idxF p l = (k : Int) := by
  have hany : l.any p = true := List.any_eq_true.2 ⟨_, List.getElem_mem hk, h1⟩
  have hf : l.findIdx p = k := by
    rcases Nat.lt_trichotomy (l.findIdx p) k with h | h | h
    · have hlt : l.findIdx p < l.length := by omega
      have := List.findIdx_getElem (w := hlt) (p := p)
      rw [h0 _ hlt h] at this
      cases this
    · exact h
    · have := List.not_of_lt_findIdx h
      rw [h1] at this
      simp at this
  unfold idxF
  rw [if_pos hany, hf]
theorem idxF_miss (p : Int → Bool) (l : List Int) (h0 : ∀ j (h : j < l.length), p (l[j]'h) = false) : idxF p l = -1 := by
  have hany : ¬ l.any p = true := by
    intro h
    obtain ⟨x, hx, hp⟩ := List.any_eq_true.1 h
    obtain ⟨j, hj, rfl⟩ := List.getElem_of_mem hx
    rw [h0 j hj] at hp
    cases hp
  unfold idxF
  rw [if_neg hany]
theorem idxF_nonneg (p : Int → Bool) (l : List Int) : decide (idxF p l ≥ 0) = l.any p := by
  unfold idxF
  cases h : l.any p with
  | true => simp
  | false => simp
set_option maxHeartbeats 1000000 in
/-- Whatever function is handed over that answers p and leaves what was there. -/
theorem ixInt.calls (g : Nat) (lb : Array Value) (p : Int → Bool) (A : Option Addr) (c : Nat) (l : List Int) (w : World) (eg : ∀ args w, (callFunc g args).run Try.prog w = .ok (.enter g args) w)
    (hr : Kd.C (Kd.int .i64) w A l.length l) (hp : ∀ x W, Below w.heap.size w W → x ∈ l → Calls Try.prog g (#[.int .i64 x] ++ lb) W fun e W' => e = .returned (.bool (p x)) ∧ Below W.heap.size W W') :
    Calls Try.prog 43 #[.slice A l.length c, .func (.func g) #[] lb] w fun e w' => e = .returned (.int .i64 (idxF p l)) ∧ Below w.heap.size w w' := by
  have hl : l.length ≤ 9223372036854775807 := hr.2.1
  have HR := Aside0.mk hr
  have HP := Aside0.mk hp
  clear hr hp
  go_enter Try.func43, Try.ntmps43
  go_wp2
  go_loopg [5, 8] l.length (fun gg _ s8 wr => ∃ kk : Nat, kk ≤ l.length ∧ l.length - kk ≤ gg ∧ s8 = .int .i64 kk ∧ Aside0 (Below w.heap.size w wr) ∧ Aside0 (∀ j (h : j < l.length), j < kk → p (l[j]'h) = false))
  case atStart => exact ⟨0, Nat.zero_le _, by omega, rfl, ⟨Below.refl _ _⟩, ⟨fun j _ hj => absurd hj (Nat.not_lt_zero _)⟩⟩
  case round =>
    obtain ⟨kk, hkk, hg, rfl, HB, HA⟩ := hrel
    by_cases hlt : kk < l.length
    · have hlt' : (kk : Int) < (l.length : Int) := by omega
      have hw0 : w.heap.size ≤ wr.heap.size := HB.out.size
      obtain ⟨ad, c1, rfl, hc1, hK, hcell⟩ := ReadsRow.get_ (Kd.C_below HR.out HB.out) 0 (kk : Int) (by omega) (by omega)
      have hcell1 : wr.cell? (ad.add kk) = some (.int .i64 (l[kk]'hlt)) := by
        have hK' : c1 = [.int .i64 (l.getD (kk : Int).toNat 0)] := hK
        have := hcell 0 (.int .i64 (l.getD (kk : Int).toNat 0)) (by rw [hK']; rfl)
        simpa [List.getD_eq_getElem?_getD, List.getElem?_eq_getElem hlt, Kd.int, Kd.scalar] using this
      clear hcell hK hc1
      have hcall := HP.out (l[kk]'hlt) wr HB.out (List.getElem_mem hlt)
      generalize hx : l[kk]'hlt = x at hcell1 hcall
      have HX := Aside0.mk hx
      clear hx
      have HC := Aside0.mk hcall
      clear hcall
      cases hq : p x with
      | true =>
        have HQ := Aside0.mk hq
        clear hq
        go_wp2_with fail
        refine HC.out.mono ?_
        rintro e w' ⟨rfl, hb⟩
        rw [HQ.out]
        have HB2 := Aside0.mk (below_then HB.out hw0 hb)
        clear hb
        go_wp2
        go_ret
        refine ⟨?_, HB2.out⟩
        rw [idxF_hit p l kk hlt (by rw [HX.out]; exact HQ.out) HA.out]
        rfl
      | false =>
        have HQ := Aside0.mk hq
        clear hq
        go_wp2_with fail
        refine HC.out.mono ?_
        rintro e w' ⟨rfl, hb⟩
        rw [HQ.out]
        have HB2 := Aside0.mk (below_then HB.out hw0 hb)
        clear hb
        go_wp2
        go_roundg (l.length - (kk + 1))
        case measure => omega
        case rel =>
          refine ⟨kk + 1, by omega, by omega, by go_num, HB2, ⟨fun j h hj => ?_⟩⟩
          by_cases e : j = kk
          · subst e
            rw [HX.out]
            exact HQ.out
          · exact HA.out j h (by omega)
    · have hlt' : ¬ (kk : Int) < (l.length : Int) := by omega
      have : kk = l.length := by omega
      subst this
      go_wp2
      go_ret
      refine ⟨?_, HB.out⟩
      rw [idxF_miss p l (fun j h => HA.out j h h)]
      rfl

/-! ### graph_Reach: function 21, by hand (graph.Reach.lean.tpl) -/
/-- A graph of which 'spread' is told. -/
def okG (n : Int) (ls : List (S41)) : Bool := decide (n ≤ 32) && decide (ls.length ≤ 64) && ls.all fun l => decide (0 ≤ l.f0) && decide (l.f0 < 32) && decide (0 ≤ l.f1) && decide (l.f1 < 32)
theorem okG_open {n : Int} {ls : List (S41)} (h : okG n ls = true) : n ≤ 32 ∧ ls.length ≤ 64 ∧ OkL ls := by
  unfold okG at h
  simp only [Bool.and_eq_true, decide_eq_true_eq, List.all_eq_true] at h
  exact ⟨h.1.1, h.1.2, fun l hl => ⟨⟨(h.2 l hl).1.1.1, (h.2 l hl).1.1.2⟩, (h.2 l hl).1.2, (h.2 l hl).2⟩⟩
theorem okG_mk {n : Int} {ls : List (S41)} (h1 : n ≤ 32) (h2 : ls.length ≤ 64) (h3 : OkL ls) : okG n ls = true := by
  unfold okG
  simp only [Bool.and_eq_true, decide_eq_true_eq, List.all_eq_true]
  exact ⟨⟨h1, h2⟩, fun l hl => ⟨⟨⟨(h3 l hl).1.1, (h3 l hl).1.2⟩, (h3 l hl).2.1⟩, (h3 l hl).2.2⟩⟩
theorem visitTo_len {p : Nat → Bool} {a : Int} {ls : List (S41)} {s : List Bool × List Int} : ∀ i, (visitTo p a ls s i).1.length = s.1.length := by
  intro i
  induction i with
  | zero => rfl
  | succ i ih =>
    show (visit p a i _ (visitTo p a ls s i)).1.length = _
    unfold visit
    split
    · split
      · simp [ih]
      · exact ih
    · exact ih
theorem bfs_len {p : Nat → Bool} {ls : List (S41)} : ∀ (k : Nat) (s : List Bool × List Int), (bfs p ls k s).length = s.1.length := by
  intro k
  induction k with
  | zero => exact fun _ => rfl
  | succ k ih =>
    intro s
    obtain ⟨m, q⟩ := s
    cases q with
    | nil => rfl
    | cons a q => exact (ih _).trans (visitTo_len _)
theorem spreadF_len (n : Int) (ls : List (S41)) (p : Nat → Bool) (a : Int) : (spreadF n ls p a).length = 32 := by
  unfold spreadF
  split
  · simp [noMarks]
  · rw [bfs_len]; simp [noMarks]
def graph_Reach.f (a0_0 : Int) (l0_1 : List (S41)) (a1 : Int) : Option (List Int) := if okG a0_0 l0_1 = true then some (markedTo (spreadF a0_0 l0_1 (fun i => (rd_T41 l0_1 (i : Int)).f3) a1) 32) else none
set_option maxHeartbeats 4000000 in
set_option maxRecDepth 100000 in
theorem reach1_calls (n : Int) (gb : Nat) (A : Option Addr) (c : Nat) (ls : List (S41)) (i : Nat) (W : World) (hB : W.heap[gb]? = some (.cells #[.int .i64 n, .slice A ls.length c] 24 (0, 0))) (hr : Kd.C k41 W A ls.length ls) (hi : i < ls.length) :
    Calls Try.prog 36 #[.int .i64 (i : Int), .pointer (some ⟨gb, 0, none⟩)] W fun e W' => e = .returned (.bool (rd_T41 ls (i : Int)).f3) ∧ Below W.heap.size W W' := by
  obtain ⟨ad, rfl, e0, e1, e2, e3⟩ := at_T41 hr (i : Int) (by omega) (by omega)
  rw [Int.toNat_natCast] at e0 e1 e2 e3
  generalize rd_T41 ls (i : Int) = l at e0 e1 e2 e3 ⊢
  have hi' : (i : Int) < (ls.length : Int) := by omega
  have cB : W.cell? ⟨gb, 1, none⟩ = some (.slice (some ad) ls.length c) := blk_cell hB 1
  have hu := Try.underlying41
  have hu2 := Try.underlying24
  have HW := Aside0.mk hB
  clear hB hr
  go_enter Try.func36, Try.ntmps36
  go_wp2
  go_ret
  exact ⟨rfl, Below.refl _ _⟩
set_option maxHeartbeats 4000000 in
set_option maxRecDepth 100000 in
theorem graph_Reach.calls (a0_0 : Int) (A0_1 : Option Addr) (c0_1 : Nat) (l0_1 : List (S41)) (a1 : Int) (r : List Int) (w : World) (hr0_1 : Kd.C k41 w A0_1 l0_1.length l0_1) (hc0_1 : l0_1.length ≤ c0_1) (h : graph_Reach.f a0_0 l0_1 a1 = some r) :
    Calls Try.prog 21 #[.agg #[.int .i64 a0_0, .slice A0_1 l0_1.length c0_1], .int .i64 a1] w fun e w' => ∃ v0_ : Value, e = .returned (v0_) ∧ Kd.R (Kd.int .i64) 3 w' w.heap.size (fun _ => True) v0_ r ∧ Below w.heap.size w w' := by
  unfold graph_Reach.f at h
  split at h
  case isFalse => cases h
  case isTrue hok =>
  obtain rfl := Option.some.inj h
  clear h
  obtain ⟨hn, hlen, hOK⟩ := okG_open hok
  have HOK := Aside0.mk hOK
  have HR := Aside0.mk hr0_1
  have hu2 := Try.underlying24
  have hmf : ∀ (fn : Fn) (first cap : Array Value) (w : World), (Instr.makeFunc fn first cap).run Try.prog w = .ok (.func fn first cap) w := fun _ _ _ _ => rfl
  have eg : ∀ args w, (callFunc 36 args).run Try.prog w = .ok (.enter 36 args) w := fun _ _ => rfl
  have HEG := Aside0.mk eg
  clear hr0_1 hc0_1 hok hOK eg
  go_enter Try.func21, Try.ntmps21
  go_wp2_with (go_at_call 25; refine Stop0.out ?_)
  refine ⟨?_⟩
  have HB := Aside0.mk (blk_new w (.cells #[.int .i64 a0_0, .slice A0_1 l0_1.length c0_1] 24))
  have HBW := Aside0.mk (below_alloc (Below.refl w.heap.size w) (.cells #[.int .i64 a0_0, .slice A0_1 l0_1.length c0_1] 24))
  generalize (w.alloc _) = w1 at HB HBW ⊢
  refine (spread_calls 36 #[.pointer (some ⟨w.heap.size, 0, none⟩)] (fun i => (rd_T41 l0_1 (i : Int)).f3) a0_0 a1 A0_1 c0_1 l0_1 w1 HEG.out (Kd.C_below HR.out HBW.out) HOK.out hn (by omega) (fun i W hb hi => reach1_calls a0_0 w.heap.size A0_1 c0_1 l0_1 i W (blk_below HB.out hb) (Kd.C_below (Kd.C_below HR.out HBW.out) hb) hi)).mono ?_
  rintro e w2 ⟨rfl, hb⟩
  have HB2 := Aside0.mk (below_then HBW.out HBW.out.size hb)
  clear hb
  have HL := Aside0.mk (spreadF_len a0_0 l0_1 (fun i => (rd_T41 l0_1 (i : Int)).f3) a1)
  generalize hm : spreadF a0_0 l0_1 (fun i => (rd_T41 l0_1 (i : Int)).f3) a1 = m at HL ⊢
  have HMm := Aside0.mk hm
  clear hm
  go_wp2_with (go_at_call 28; refine Stop0.out ?_)
  refine ⟨?_⟩
  refine (rows_calls m HL.out w2).mono ?_
  rintro e w3 ⟨v, rfl, hR, hb⟩
  have HR3 := Aside0.mk (And.intro (Kd.R_lower hR HB2.out.size) (below_then HB2.out HB2.out.size hb))
  clear hR hb
  go_wp2
  go_ret
  refine ⟨_, rfl, ?_, HR3.out.2⟩
  rw [HMm.out]
  exact HR3.out.1

end Go.Proofs.Yticjabdkjjbegaa.P
