/- For each Go function a Lean function, and the proof that a call comes to what it tells: made by program out of the translation (the kit's print, with texts by hand put in). No condition. -/
import Derived.Test.YtlihbdinghoeeabPx0
import Derived.Test.YtlihbdinghoeeabPx4
import Derived.Test.YtlihbdinghoeeabPx6
import Derived.Test.YtlihbdinghoeeabPx8
import Derived.Test.YtlihbdinghoeeabPx10
import Derived.Test.YtlihbdinghoeeabPx12
namespace Go.Proofs.Ytlihbdinghoeeab.P
open Go.RowKit Go.Proofs.Ytlihbdinghoeeab.HRows Go.Proofs.YtlihbdinghoeeabW.PrintWords Go.Proofs.YtlihbdinghoeeabW.PrintLast Go.Proofs.YtlihbdinghoeeabW.PrintMore
attribute [local go_sem] max2_int min2_int max_two min_two max_three min_three max_four min_four   -- for this text's walks alone
set_option linter.unusedVariables false
set_option linter.unusedSimpArgs false

/-! ### stolonlaw12_HeapStays: function 3 -/
mutual
def stolonlaw12_HeapStays.j0 : Nat → List (S24) → Bool → Bool → Int → Int → Option (Bool)
  | 0, _, _, _, _, _ => none
  | k + 1, x0, x5, x19, x183000, x183001 => if x19 = true then (some x5) else ((heap_Push.f k x0 x183000 x183001).bind fun t185 => ((heap_Pop.f k t185).bind fun bt188 => ((stolonref12_Right.f k t185).bind fun t195 => (if t195 = true then (if (t185.length : Int) = (wrap64 ((x0.length : Int) + 1)) then (if bt188.2.2.2 = true then ((stolonref12_Right.f k bt188.1).bind fun t196 => (if t196 = true then (stolonlaw12_HeapStays.j1 k x5 bt188.1 ((bt188.1.length : Int) != (x0.length : Int)) x183000 x183001 bt188.2.1 bt188.2.2.1) else (stolonlaw12_HeapStays.j1 k x5 bt188.1 true x183000 x183001 bt188.2.1 bt188.2.2.1))) else (stolonlaw12_HeapStays.j1 k x5 bt188.1 true x183000 x183001 bt188.2.1 bt188.2.2.1)) else (stolonlaw12_HeapStays.j1 k x5 bt188.1 true x183000 x183001 bt188.2.1 bt188.2.2.1)) else (stolonlaw12_HeapStays.j1 k x5 bt188.1 true x183000 x183001 bt188.2.1 bt188.2.2.1)))))
def stolonlaw12_HeapStays.j1 : Nat → Bool → List (S24) → Bool → Int → Int → Int → Int → Option (Bool)
  | 0, _, _, _, _, _, _, _ => none
  | k + 1, x5, x7, x56, x183000, x183001, x195000, x195001 => if x56 = true then (some false) else (stolonlaw12_HeapStays.l0 k x5 x7 0 x183000 x183001 x195000 x195001)
def stolonlaw12_HeapStays.l0 : Nat → Bool → List (S24) → Int → Int → Int → Int → Int → Option (Bool)
  | 0, _, _, _, _, _, _, _ => none
  | k + 1, x5, x7, x10, x183000, x183001, x195000, x195001 => if x10 < (x7.length : Int) then (if 0 ≤ x10 then ((heap_Less.f k ((rd_T24 x7 x10).f0) ((rd_T24 x7 x10).f1) x195000 x195001).bind fun t198 => (if t198 = true then (some false) else (stolonlaw12_HeapStays.l0 k x5 x7 (wrap64 (x10 + 1)) x183000 x183001 x195000 x195001))) else (none)) else (if x5 = true then ((heap_Less.f k x183000 x183001 x195000 x195001).bind fun t199 => (some (!t199))) else (some false))
end
def stolonlaw12_HeapStays.f (k : Nat) (l0 : List (S24)) (a1_0 : Int) (a1_1 : Int) : Option (Bool) := (stolonlaw12_shown.f k).bind fun t183 => (if (l0.length : Int) > 100 then (stolonlaw12_HeapStays.j0 k l0 t183 true a1_0 a1_1) else ((stolonref12_Right.f k l0).bind fun t184 => (stolonlaw12_HeapStays.j0 k l0 t183 (!t184) a1_0 a1_1)))
theorem stolonlaw12_HeapStays.mono_l : ∀ k, (∀ y0 y1 y2 y3 y4, LeO (stolonlaw12_HeapStays.j0 k y0 y1 y2 y3 y4) (stolonlaw12_HeapStays.j0 (k + 1) y0 y1 y2 y3 y4)) ∧ (∀ y0 y1 y2 y3 y4 y5 y6, LeO (stolonlaw12_HeapStays.j1 k y0 y1 y2 y3 y4 y5 y6) (stolonlaw12_HeapStays.j1 (k + 1) y0 y1 y2 y3 y4 y5 y6)) ∧ (∀ y0 y1 y2 y3 y4 y5 y6, LeO (stolonlaw12_HeapStays.l0 k y0 y1 y2 y3 y4 y5 y6) (stolonlaw12_HeapStays.l0 (k + 1) y0 y1 y2 y3 y4 y5 y6))
  | 0 => ⟨fun _ _ _ _ _ r h => by simp [stolonlaw12_HeapStays.j0] at h, fun _ _ _ _ _ _ _ r h => by simp [stolonlaw12_HeapStays.j1] at h, fun _ _ _ _ _ _ _ r h => by simp [stolonlaw12_HeapStays.l0] at h⟩
  | k + 1 => by
    obtain ⟨ih0, ih1, ih2⟩ := stolonlaw12_HeapStays.mono_l k
    refine ⟨?_, ?_, ?_⟩
    · intro y0 y1 y2 y3 y4
      unfold stolonlaw12_HeapStays.j0
      repeat' first
      | (with_reducible exact ih0 _ _ _ _ _)
      | (with_reducible exact ih1 _ _ _ _ _ _ _)
      | (with_reducible exact ih2 _ _ _ _ _ _ _)
      | (with_reducible exact heap_Less.mono _ _ _ _ _)
      | (with_reducible exact heap_Pop.mono _ _)
      | (with_reducible exact heap_Push.mono _ _ _ _)
      | (with_reducible exact stolonlaw12_shown.mono _)
      | (with_reducible exact stolonref12_Right.mono _ _)
      | (with_reducible exact LeO.refl _)
      | (with_reducible exact LeO.none _)
      | (with_reducible refine LeO.ite ?_ ?_)
      | (with_reducible refine LeO.bind ?_ (fun _ => ?_))
      | exact ih0 _ _ _ _ _
      | exact ih1 _ _ _ _ _ _ _
      | exact ih2 _ _ _ _ _ _ _
      | exact heap_Less.mono _ _ _ _ _
      | exact heap_Pop.mono _ _
      | exact heap_Push.mono _ _ _ _
      | exact stolonlaw12_shown.mono _
      | exact stolonref12_Right.mono _ _
      | exact LeO.none _
      | refine LeO.ite ?_ ?_
      | refine LeO.bind ?_ (fun _ => ?_)
    · intro y0 y1 y2 y3 y4 y5 y6
      unfold stolonlaw12_HeapStays.j1
      repeat' first
      | (with_reducible exact ih0 _ _ _ _ _)
      | (with_reducible exact ih1 _ _ _ _ _ _ _)
      | (with_reducible exact ih2 _ _ _ _ _ _ _)
      | (with_reducible exact heap_Less.mono _ _ _ _ _)
      | (with_reducible exact heap_Pop.mono _ _)
      | (with_reducible exact heap_Push.mono _ _ _ _)
      | (with_reducible exact stolonlaw12_shown.mono _)
      | (with_reducible exact stolonref12_Right.mono _ _)
      | (with_reducible exact LeO.refl _)
      | (with_reducible exact LeO.none _)
      | (with_reducible refine LeO.ite ?_ ?_)
      | (with_reducible refine LeO.bind ?_ (fun _ => ?_))
      | exact ih0 _ _ _ _ _
      | exact ih1 _ _ _ _ _ _ _
      | exact ih2 _ _ _ _ _ _ _
      | exact heap_Less.mono _ _ _ _ _
      | exact heap_Pop.mono _ _
      | exact heap_Push.mono _ _ _ _
      | exact stolonlaw12_shown.mono _
      | exact stolonref12_Right.mono _ _
      | exact LeO.none _
      | refine LeO.ite ?_ ?_
      | refine LeO.bind ?_ (fun _ => ?_)
    · intro y0 y1 y2 y3 y4 y5 y6
      unfold stolonlaw12_HeapStays.l0
      repeat' first
      | (with_reducible exact ih0 _ _ _ _ _)
      | (with_reducible exact ih1 _ _ _ _ _ _ _)
      | (with_reducible exact ih2 _ _ _ _ _ _ _)
      | (with_reducible exact heap_Less.mono _ _ _ _ _)
      | (with_reducible exact heap_Pop.mono _ _)
      | (with_reducible exact heap_Push.mono _ _ _ _)
      | (with_reducible exact stolonlaw12_shown.mono _)
      | (with_reducible exact stolonref12_Right.mono _ _)
      | (with_reducible exact LeO.refl _)
      | (with_reducible exact LeO.none _)
      | (with_reducible refine LeO.ite ?_ ?_)
      | (with_reducible refine LeO.bind ?_ (fun _ => ?_))
      | exact ih0 _ _ _ _ _
      | exact ih1 _ _ _ _ _ _ _
      | exact ih2 _ _ _ _ _ _ _
      | exact heap_Less.mono _ _ _ _ _
      | exact heap_Pop.mono _ _
      | exact heap_Push.mono _ _ _ _
      | exact stolonlaw12_shown.mono _
      | exact stolonref12_Right.mono _ _
      | exact LeO.none _
      | refine LeO.ite ?_ ?_
      | refine LeO.bind ?_ (fun _ => ?_)
theorem stolonlaw12_HeapStays.mono : ∀ a0 a1 a2 k, LeO (stolonlaw12_HeapStays.f k a0 a1 a2) (stolonlaw12_HeapStays.f (k + 1) a0 a1 a2) := by
  intro a0 a1 a2 k
  obtain ⟨ih0, ih1, ih2⟩ := stolonlaw12_HeapStays.mono_l k
  unfold stolonlaw12_HeapStays.f
  repeat' first
      | (with_reducible exact ih0 _ _ _ _ _)
      | (with_reducible exact ih1 _ _ _ _ _ _ _)
      | (with_reducible exact ih2 _ _ _ _ _ _ _)
      | (with_reducible exact heap_Less.mono _ _ _ _ _)
      | (with_reducible exact heap_Pop.mono _ _)
      | (with_reducible exact heap_Push.mono _ _ _ _)
      | (with_reducible exact stolonlaw12_shown.mono _)
      | (with_reducible exact stolonref12_Right.mono _ _)
      | (with_reducible exact LeO.refl _)
      | (with_reducible exact LeO.none _)
      | (with_reducible refine LeO.ite ?_ ?_)
      | (with_reducible refine LeO.bind ?_ (fun _ => ?_))
      | exact ih0 _ _ _ _ _
      | exact ih1 _ _ _ _ _ _ _
      | exact ih2 _ _ _ _ _ _ _
      | exact heap_Less.mono _ _ _ _ _
      | exact heap_Pop.mono _ _
      | exact heap_Push.mono _ _ _ _
      | exact stolonlaw12_shown.mono _
      | exact stolonref12_Right.mono _ _
      | exact LeO.none _
      | refine LeO.ite ?_ ?_
      | refine LeO.bind ?_ (fun _ => ?_)
set_option maxHeartbeats 8000000 in
set_option maxRecDepth 100000 in
theorem stolonlaw12_HeapStays.calls (k : Nat) (A0 : Option Addr) (c0 : Nat) (l0 : List (S24)) (a1_0 : Int) (a1_1 : Int) (r : Bool) (w : World) (hr0 : Kd.C k24 w A0 l0.length l0) (hc0 : l0.length ≤ c0) (hTrue : Aside0 (r = true)) (h : stolonlaw12_HeapStays.f k l0 a1_0 a1_1 = some r) :
    Calls Try.prog 3 #[.slice A0 l0.length c0, .agg #[.int .i64 a1_0, .int .i64 a1_1]] w fun e w' => e = .returned (.bool r) ∧ Below w.heap.size w w' := by
  have hu24 := Try.underlying24
  have HR0 := Aside0.mk hr0
  have HC0 := Aside0.mk hc0
  clear hr0 hc0
  have HB := Aside0.mk (Below.refl w.heap.size w)
  have H : ((stolonlaw12_shown.f k).bind fun t183 => (if (l0.length : Int) > 100 then (stolonlaw12_HeapStays.j0 k l0 t183 true a1_0 a1_1) else ((stolonref12_Right.f k l0).bind fun t184 => (stolonlaw12_HeapStays.j0 k l0 t183 (!t184) a1_0 a1_1)))) = some r := h
  clear h
  replace H := Option.bind_eq_some_iff.mp H
  obtain ⟨t183, A30, H⟩ := H
  replace H : (if (l0.length : Int) > 100 then (stolonlaw12_HeapStays.j0 k l0 t183 true a1_0 a1_1) else ((stolonref12_Right.f k l0).bind fun t184 => (stolonlaw12_HeapStays.j0 k l0 t183 (!t184) a1_0 a1_1))) = some r := H
  have A3 := Aside0.mk A30
  clear A30
  have HC4 := Aside0.mk H
  clear H
  go_enter Try.func3, Try.ntmps3
  go_upto_region 2 with (first | ((with_reducible refine gate_dst (N := 3) rfl ?_); (try (refine gate_guard (by rfl) ?_; dsimp only)); refine box_event ?hg (N := 3) ?hd (cs := #[.int .i64 a1_0, .int .i64 a1_1]) (t := 24) ?hr ?_; (case hd => rfl); (case hg => rfl); (case hr => first | (go_simp; done) | (go_simp; rfl)); intro gb182 hg w5 hbox hb; have n0_ := Aside0.mk (below_step (by repeat (first | (with_reducible first | exact HB.out | apply below_alloc | apply pw_below_drewN | apply below_drew1) | exact HB.out)) hb); have n1_ := Aside0.mk (hbox); have n2_ := Aside0.mk ((by rw [hg]; exact (below_size (by repeat (first | (with_reducible first | exact HB.out | apply below_alloc | apply pw_below_drewN | apply below_drew1) | exact HB.out))) : w.heap.size ≤ gb182)); have n3_ := Aside0.mk ((by rw [hg]; exact (below_size (by repeat (first | (with_reducible first | exact HB.out | apply below_alloc | apply pw_below_drewN | apply below_drew1) | exact HB.out))) : w.heap.size ≤ gb182)); clear HB; have HB := n0_; have BK182 := n1_; have GW182 := n2_; have GE182 := n3_; clear n0_ n1_ n2_ n3_; clear hb hbox hg) | ((with_reducible refine gate_callee (f := 9) rfl ?_); refine goesL_ (some 11) rfl rfl Try.func9 (by kernel_rfl) rfl #[] rfl (by (try simp only [List.map_toArray, List.map_cons, List.map_nil]); first | done | rfl | (simp only [List.length_drop, List.length_take]; rfl)) ?_; (with_reducible refine (stolonlaw12_shown.calls k  t183 _ A3.out).mono ?_); rintro e w6 ⟨rfl, hb⟩; refine ⟨_, rfl, ?_⟩; have n0_ := Aside0.mk (blk_below (g := gb182) (o := .cells #[.int .i64 a1_0, .int .i64 a1_1] 24 (0, 0)) (by (with_reducible repeat (first | refine blk_drewN ?_ _ | refine blk_drew ?_ | refine blk_alloc ?_ _)); exact BK182.out) hb); have n1_ := Aside0.mk (below_step (by repeat (first | (with_reducible first | exact HB.out | apply below_alloc | apply pw_below_drewN | apply below_drew1 | refine below_set ?_ GE182.out) | exact HB.out)) hb); clear BK182; clear HB; have BK182 := n0_; have HB := n1_; clear n0_ n1_; (try clear hb); (try clear hb2); (try clear hk); (try clear hi)))
  (try simp only [Act.put, List.setIfInBounds_toArray, List.set_cons_zero, List.set_cons_succ])
  go_cut [19] (fun v19 wc => ∃ (kq : Nat) (x19_3 : Bool), v19 = .bool x19_3 ∧ Aside0 (stolonlaw12_HeapStays.j0 kq l0 t183 x19_3 a1_0 a1_1 = some r) ∧ Aside0 (kq ≤ k) ∧ Aside0 (wc.heap[gb182]? = some (.cells #[.int .i64 a1_0, .int .i64 a1_1] 24 (0, 0))) ∧ Aside0 (Below w.heap.size w wc))
  case first =>
    have H := HC4.out
    clear HC4
    by_cases c7 : (l0.length : Int) > 100
    · rw [if_pos c7] at H
      have c7b0 : decide (100 < (l0.length : Int)) = true := decide_eq_true c7
      have c7b1 : decide (100 < l0.length) = true := decide_eq_true (by omega)
      clear c7
      (first | rw [c7b0] | (simp only [i64_w, i32_w]; rw [c7b0]) | skip)
      have H' := Aside0.mk H
      clear H
      go_wp2
      go_meet
      case rel => exact ⟨_, (true), (by first | rfl | (simp; done) | (simp [*]; done)), H', ⟨by first | omega | exact Nat.le_refl _⟩, ⟨by (with_reducible repeat (first | refine blk_drewN ?_ _ | refine blk_drew ?_ | refine blk_alloc ?_ _)); exact BK182.out⟩, ⟨by repeat (first | (with_reducible first | exact HB.out | apply below_alloc | apply pw_below_drewN | apply below_drew1 | refine below_set ?_ GE182.out) | exact HB.out)⟩⟩
    · rw [if_neg c7] at H
      have c7b0 : decide (100 < (l0.length : Int)) = false := decide_eq_false c7
      have c7b1 : decide (100 < l0.length) = false := decide_eq_false (by omega)
      clear c7
      (first | rw [c7b0] | (simp only [i64_w, i32_w]; rw [c7b0]) | skip)
      replace H := Option.bind_eq_some_iff.mp H
      obtain ⟨t184, A80, H⟩ := H
      replace H : (stolonlaw12_HeapStays.j0 k l0 t183 (!t184) a1_0 a1_1) = some r := H
      have A8 := Aside0.mk A80
      clear A80
      have H' := Aside0.mk H
      clear H
      go_wp2_with (first | (go_at_call 10; (with_reducible refine (stolonref12_Right.calls k _ _ l0 t184 _ ?side1 ?side2 A8.out).mono ?_); (case side1 => repeat (first | exact (Kd.C_below HR0.out HB.out) | (with_reducible refine Kd.C_alloc ?_ _) | (with_reducible refine Kd.C_drewN ?_ _) | (with_reducible refine Kd.C_drew ?_))); (case side2 => exact HC0.out); rintro e w9 ⟨rfl, hb⟩; have n0_ := Aside0.mk (blk_below (g := gb182) (o := .cells #[.int .i64 a1_0, .int .i64 a1_1] 24 (0, 0)) (by (with_reducible repeat (first | refine blk_drewN ?_ _ | refine blk_drew ?_ | refine blk_alloc ?_ _)); exact BK182.out) hb); have n1_ := Aside0.mk (below_step (by repeat (first | (with_reducible first | exact HB.out | apply below_alloc | apply pw_below_drewN | apply below_drew1 | refine below_set ?_ GE182.out) | exact HB.out)) hb); clear BK182; clear HB; have BK182 := n0_; have HB := n1_; clear n0_ n1_; (try clear hb); (try clear hb2); (try clear hk); (try clear hi)))
      go_meet
      case rel => exact ⟨_, (!t184), (by first | rfl | (simp; done) | (simp [*]; done)), H', ⟨by first | omega | exact Nat.le_refl _⟩, ⟨by (with_reducible repeat (first | refine blk_drewN ?_ _ | refine blk_drew ?_ | refine blk_alloc ?_ _)); exact BK182.out⟩, ⟨by repeat (first | (with_reducible first | exact HB.out | apply below_alloc | apply pw_below_drewN | apply below_drew1 | refine below_set ?_ GE182.out) | exact HB.out)⟩⟩
  case rest =>
    clear HC4
    try clear p2
    try clear c3
    try clear c7
    try clear c7b0
    try clear c7b1
    try clear c9
    obtain ⟨kq, x19_3, rfl, HA, HJ3, BK182, HB⟩ := hcut
    cases kq with
    | zero => exact absurd HA.out (by simp [stolonlaw12_HeapStays.j0])
    | succ kj3 =>
      have H := HA.out
      clear HA
      simp only [stolonlaw12_HeapStays.j0] at H
      by_cases c10 : x19_3 = true
      · subst c10
        have H1 : (some t183) = some r := by rw [if_pos rfl] at H; exact H
        clear H
        have H := H1
        clear H1
        obtain rfl := Option.some.inj H
        go_wp2
        go_ret
        exact ⟨by first | rfl | (simp [errW_none, errW_some] <;> rfl) | (simp [*, errW_none, errW_some] <;> rfl), by repeat (first | (with_reducible first | exact HB.out | apply below_alloc | apply pw_below_drewN | apply below_drew1 | refine below_set ?_ GE182.out) | exact HB.out)⟩
      · replace c10 := Bool.eq_false_iff.mpr c10
        subst c10
        have H1 : ((heap_Push.f kj3 l0 a1_0 a1_1).bind fun t185 => ((heap_Pop.f kj3 t185).bind fun bt188 => ((stolonref12_Right.f kj3 t185).bind fun t195 => (if t195 = true then (if (t185.length : Int) = (wrap64 ((l0.length : Int) + 1)) then (if bt188.2.2.2 = true then ((stolonref12_Right.f kj3 bt188.1).bind fun t196 => (if t196 = true then (stolonlaw12_HeapStays.j1 kj3 t183 bt188.1 ((bt188.1.length : Int) != (l0.length : Int)) a1_0 a1_1 bt188.2.1 bt188.2.2.1) else (stolonlaw12_HeapStays.j1 kj3 t183 bt188.1 true a1_0 a1_1 bt188.2.1 bt188.2.2.1))) else (stolonlaw12_HeapStays.j1 kj3 t183 bt188.1 true a1_0 a1_1 bt188.2.1 bt188.2.2.1)) else (stolonlaw12_HeapStays.j1 kj3 t183 bt188.1 true a1_0 a1_1 bt188.2.1 bt188.2.2.1)) else (stolonlaw12_HeapStays.j1 kj3 t183 bt188.1 true a1_0 a1_1 bt188.2.1 bt188.2.2.1))))) = some r := by rw [if_neg (show ¬ (false = true) by decide)] at H; exact H
        clear H
        have H := H1
        clear H1
        replace H := Option.bind_eq_some_iff.mp H
        obtain ⟨t185, A110, H⟩ := H
        replace H : ((heap_Pop.f kj3 t185).bind fun bt188 => ((stolonref12_Right.f kj3 t185).bind fun t195 => (if t195 = true then (if (t185.length : Int) = (wrap64 ((l0.length : Int) + 1)) then (if bt188.2.2.2 = true then ((stolonref12_Right.f kj3 bt188.1).bind fun t196 => (if t196 = true then (stolonlaw12_HeapStays.j1 kj3 t183 bt188.1 ((bt188.1.length : Int) != (l0.length : Int)) a1_0 a1_1 bt188.2.1 bt188.2.2.1) else (stolonlaw12_HeapStays.j1 kj3 t183 bt188.1 true a1_0 a1_1 bt188.2.1 bt188.2.2.1))) else (stolonlaw12_HeapStays.j1 kj3 t183 bt188.1 true a1_0 a1_1 bt188.2.1 bt188.2.2.1)) else (stolonlaw12_HeapStays.j1 kj3 t183 bt188.1 true a1_0 a1_1 bt188.2.1 bt188.2.2.1)) else (stolonlaw12_HeapStays.j1 kj3 t183 bt188.1 true a1_0 a1_1 bt188.2.1 bt188.2.2.1)))) = some r := H
        have A11 := Aside0.mk A110
        clear A110
        replace H := Option.bind_eq_some_iff.mp H
        obtain ⟨⟨t188, t191, t192, t193⟩, A120, H⟩ := H
        replace H : ((stolonref12_Right.f kj3 t185).bind fun t195 => (if t195 = true then (if (t185.length : Int) = (wrap64 ((l0.length : Int) + 1)) then (if t193 = true then ((stolonref12_Right.f kj3 t188).bind fun t196 => (if t196 = true then (stolonlaw12_HeapStays.j1 kj3 t183 t188 ((t188.length : Int) != (l0.length : Int)) a1_0 a1_1 t191 t192) else (stolonlaw12_HeapStays.j1 kj3 t183 t188 true a1_0 a1_1 t191 t192))) else (stolonlaw12_HeapStays.j1 kj3 t183 t188 true a1_0 a1_1 t191 t192)) else (stolonlaw12_HeapStays.j1 kj3 t183 t188 true a1_0 a1_1 t191 t192)) else (stolonlaw12_HeapStays.j1 kj3 t183 t188 true a1_0 a1_1 t191 t192))) = some r := H
        have A12 := Aside0.mk A120
        clear A120
        have HC13 := Aside0.mk H
        clear H
        have hcz14_0 : wc.cell? ⟨gb182, 0, none⟩ = some (.int .i64 a1_0) := (blk_cell BK182.out 0).trans rfl
        have hcz14_1 : wc.cell? ⟨gb182, 1, none⟩ = some (.int .i64 a1_1) := (blk_cell BK182.out 1).trans rfl
        have hfz14_0 := blk_frozen BK182.out 0
        have hfz14_1 := blk_frozen BK182.out 1
        go_upto_region 6 with (first | ((with_reducible refine gate_callee (f := 11) rfl ?_); refine goesL_ (some 23) rfl rfl Try.func11 (by kernel_rfl) rfl #[.slice A0 l0.length c0, .agg #[.int .i64 a1_0, .int .i64 a1_1]] rfl (by (try simp only [List.map_toArray, List.map_cons, List.map_nil]); first | done | rfl | (simp only [List.length_drop, List.length_take]; rfl)) ?_; (with_reducible refine (heap_Push.calls kj3 _ _ l0 a1_0 a1_1 t185 _ ?side1 ?side2 A11.out).mono ?_); (case side1 => repeat (first | exact (Kd.C_below HR0.out HB.out) | (with_reducible refine Kd.C_alloc ?_ _) | (with_reducible refine Kd.C_drewN ?_ _) | (with_reducible refine Kd.C_drew ?_))); (case side2 => exact HC0.out); rintro e w15 ⟨v186, rfl, ho0, hb⟩; refine ⟨_, rfl, ?_⟩; have n0_ := Aside0.mk (Kd.R_lower (Kd.R_newB ho0 (g := gb182) (o := .cells #[.int .i64 a1_0, .int .i64 a1_1] 24 (0, 0)) (by (with_reducible repeat (first | refine blk_drewN ?_ _ | refine blk_drew ?_ | refine blk_alloc ?_ _)); exact BK182.out)) (below_size (by repeat (first | (with_reducible first | exact HB.out | apply below_alloc | apply pw_below_drewN | apply below_drew1 | refine below_set ?_ GE182.out) | exact HB.out)))); have n1_ := Aside0.mk (blk_below (g := gb182) (o := .cells #[.int .i64 a1_0, .int .i64 a1_1] 24 (0, 0)) (by (with_reducible repeat (first | refine blk_drewN ?_ _ | refine blk_drew ?_ | refine blk_alloc ?_ _)); exact BK182.out) hb); have n2_ := Aside0.mk (below_step (by repeat (first | (with_reducible first | exact HB.out | apply below_alloc | apply pw_below_drewN | apply below_drew1 | refine below_set ?_ GE182.out) | exact HB.out)) hb); clear BK182; clear HB; have HO187 := n0_; have BK182 := n1_; have HB := n2_; clear n0_ n1_ n2_; (try clear hb); (try clear hb2); (try clear hk); (try clear hi); (try clear ho0); obtain ⟨Ao16, co16, eo16⟩ := Kd.R_slice HO187.out; subst eo16) | ((with_reducible refine gate_callee (f := 12) rfl ?_); refine goesL_ (some 26) rfl rfl Try.func12 (by kernel_rfl) rfl #[.slice Ao16 t185.length co16] rfl (by (try simp only [List.map_toArray, List.map_cons, List.map_nil]); first | done | rfl | (simp only [List.length_drop, List.length_take]; rfl)) ?_; (with_reducible refine (heap_Pop.calls kj3 _ _ t185 t188 t191 t192 t193 _ ?side1 ?side2 A12.out).mono ?_); (case side1 => repeat (first | exact (Kd.R_reads' HO187.out).2.2 | (with_reducible refine Kd.C_alloc ?_ _) | (with_reducible refine Kd.C_drewN ?_ _) | (with_reducible refine Kd.C_drew ?_))); (case side2 => exact (Kd.R_reads' HO187.out).2.1); rintro e w17 ⟨v189, rfl, ho0, hb⟩; refine ⟨_, rfl, ?_⟩; have n0_ := Aside0.mk (Kd.R_elder' (by (with_reducible repeat (first | apply Kd.R_alloc | apply Kd.R_drewN | apply Kd.R_drew)); exact HO187.out) (Kd.R_base ho0) hb); have n1_ := Aside0.mk (Kd.R_lower (Kd.R_newB (Kd.R_new' ho0 (Kd.R_lt (by (with_reducible repeat (first | apply Kd.R_alloc | apply Kd.R_drewN | apply Kd.R_drew)); exact HO187.out))) (g := gb182) (o := .cells #[.int .i64 a1_0, .int .i64 a1_1] 24 (0, 0)) (by (with_reducible repeat (first | refine blk_drewN ?_ _ | refine blk_drew ?_ | refine blk_alloc ?_ _)); exact BK182.out)) (below_size (by repeat (first | (with_reducible first | exact HB.out | apply below_alloc | apply pw_below_drewN | apply below_drew1 | refine below_set ?_ GE182.out) | exact HB.out)))); have n2_ := Aside0.mk (blk_below (g := gb182) (o := .cells #[.int .i64 a1_0, .int .i64 a1_1] 24 (0, 0)) (by (with_reducible repeat (first | refine blk_drewN ?_ _ | refine blk_drew ?_ | refine blk_alloc ?_ _)); exact BK182.out) hb); have n3_ := Aside0.mk (below_step (by repeat (first | (with_reducible first | exact HB.out | apply below_alloc | apply pw_below_drewN | apply below_drew1 | refine below_set ?_ GE182.out) | exact HB.out)) hb); clear HO187; clear BK182; clear HB; have HO187 := n0_; have HO190 := n1_; have BK182 := n2_; have HB := n3_; clear n0_ n1_ n2_ n3_; (try clear hb); (try clear hb2); (try clear hk); (try clear hi); (try clear ho0)) | ((with_reducible refine gate_dst (N := 8) rfl ?_); (try (refine gate_guard (by rfl) ?_; dsimp only)); refine box_event ?hg (N := 8) ?hd (cs := #[.int .i64 0, .int .i64 0]) (t := 24) ?hr ?_; (case hd => rfl); (case hg => rfl); (case hr => first | (go_simp; done) | (go_simp; rfl)); intro gb194 hg w18 hbox hb; have n0_ := Aside0.mk (Kd.R_below (Kd.R_elderB (by (with_reducible repeat (first | apply Kd.R_alloc | apply Kd.R_drewN | apply Kd.R_drew)); exact HO187.out) gb194 (Nat.le_of_eq hg.symm)) hb); have n1_ := Aside0.mk (Kd.R_below (Kd.R_elderB (by (with_reducible repeat (first | apply Kd.R_alloc | apply Kd.R_drewN | apply Kd.R_drew)); exact HO190.out) gb194 (Nat.le_of_eq hg.symm)) hb); have n2_ := Aside0.mk (blk_below (g := gb182) (o := .cells #[.int .i64 a1_0, .int .i64 a1_1] 24 (0, 0)) (by (with_reducible repeat (first | refine blk_drewN ?_ _ | refine blk_drew ?_ | refine blk_alloc ?_ _)); exact BK182.out) hb); have n3_ := Aside0.mk (below_step (by repeat (first | (with_reducible first | exact HB.out | apply below_alloc | apply pw_below_drewN | apply below_drew1 | refine below_set ?_ GE182.out) | exact HB.out)) hb); have n4_ := Aside0.mk (hbox); have n5_ := Aside0.mk ((by rw [hg]; exact (below_size (by repeat (first | (with_reducible first | exact HB.out | apply below_alloc | apply pw_below_drewN | apply below_drew1 | refine below_set ?_ GE182.out) | exact HB.out))) : w.heap.size ≤ gb194)); have n6_ := Aside0.mk ((by rw [hg]; exact (below_size (by repeat (first | (with_reducible first | exact HB.out | apply below_alloc | apply pw_below_drewN | apply below_drew1 | refine below_set ?_ GE182.out) | exact HB.out))) : w.heap.size ≤ gb194)); have n7_ := Aside0.mk ((by rw [hg]; exact Nat.ne_of_lt (blk_lt (g := gb182) (o := .cells #[.int .i64 a1_0, .int .i64 a1_1] 24 (0, 0)) (by (with_reducible repeat (first | refine blk_drewN ?_ _ | refine blk_drew ?_ | refine blk_alloc ?_ _)); exact BK182.out)) : gb182 ≠ gb194)); have n8_ := Aside0.mk ((by rw [hg]; exact Nat.ne_of_gt (blk_lt (g := gb182) (o := .cells #[.int .i64 a1_0, .int .i64 a1_1] 24 (0, 0)) (by (with_reducible repeat (first | refine blk_drewN ?_ _ | refine blk_drew ?_ | refine blk_alloc ?_ _)); exact BK182.out)) : gb194 ≠ gb182)); clear HO187; clear HO190; clear BK182; clear HB; have HO187 := n0_; have HO190 := n1_; have BK182 := n2_; have HB := n3_; have BK194 := n4_; have GW194 := n5_; have GE194 := n6_; have NB182_194 := n7_; have NB194_182 := n8_; clear n0_ n1_ n2_ n3_ n4_ n5_ n6_ n7_ n8_; clear hb hbox hg; have hnb19 := NB194_182.out; have hnc19 := NB182_194.out; have hcz20_0 : w18.cell? ⟨gb194, 0, none⟩ = some (.int .i64 0) := (blk_cell BK194.out 0).trans rfl; have hcz20_1 : w18.cell? ⟨gb194, 1, none⟩ = some (.int .i64 0) := (blk_cell BK194.out 1).trans rfl; have hfz20_0 := blk_frozen BK194.out 0; have hfz20_1 := blk_frozen BK194.out 1))
        (try simp only [Act.put, List.setIfInBounds_toArray, List.set_cons_zero, List.set_cons_succ])
        go_cut [56] (fun v56 wc => ∃ (kq : Nat) (x56_12 : Bool), v56 = .bool x56_12 ∧ Aside0 (stolonlaw12_HeapStays.j1 kq t183 t188 x56_12 a1_0 a1_1 t191 t192 = some r) ∧ Aside0 (kq ≤ kj3) ∧ Aside0 (Kd.R k24 24 wc w.heap.size (fun k_ => k_ ≠ gb182 ∧ k_ ≠ gb194) v189 t188) ∧ Aside0 (wc.heap[gb182]? = some (.cells #[.int .i64 a1_0, .int .i64 a1_1] 24 (0, 0))) ∧ Aside0 (wc.heap[gb194]? = some (.cells #[.int .i64 t191, .int .i64 t192] 24 (0, 0))) ∧ Aside0 (Below w.heap.size w wc))
        case first =>
          have H := HC13.out
          clear HC13
          replace H := Option.bind_eq_some_iff.mp H
          obtain ⟨t195, A210, H⟩ := H
          replace H : (if t195 = true then (if (t185.length : Int) = (wrap64 ((l0.length : Int) + 1)) then (if t193 = true then ((stolonref12_Right.f kj3 t188).bind fun t196 => (if t196 = true then (stolonlaw12_HeapStays.j1 kj3 t183 t188 ((t188.length : Int) != (l0.length : Int)) a1_0 a1_1 t191 t192) else (stolonlaw12_HeapStays.j1 kj3 t183 t188 true a1_0 a1_1 t191 t192))) else (stolonlaw12_HeapStays.j1 kj3 t183 t188 true a1_0 a1_1 t191 t192)) else (stolonlaw12_HeapStays.j1 kj3 t183 t188 true a1_0 a1_1 t191 t192)) else (stolonlaw12_HeapStays.j1 kj3 t183 t188 true a1_0 a1_1 t191 t192)) = some r := H
          have A21 := Aside0.mk A210
          clear A210
          by_cases c22 : t195 = true
          · subst c22
            have H1 : (if (t185.length : Int) = (wrap64 ((l0.length : Int) + 1)) then (if t193 = true then ((stolonref12_Right.f kj3 t188).bind fun t196 => (if t196 = true then (stolonlaw12_HeapStays.j1 kj3 t183 t188 ((t188.length : Int) != (l0.length : Int)) a1_0 a1_1 t191 t192) else (stolonlaw12_HeapStays.j1 kj3 t183 t188 true a1_0 a1_1 t191 t192))) else (stolonlaw12_HeapStays.j1 kj3 t183 t188 true a1_0 a1_1 t191 t192)) else (stolonlaw12_HeapStays.j1 kj3 t183 t188 true a1_0 a1_1 t191 t192)) = some r := by rw [if_pos rfl] at H; exact H
            clear H
            have H := H1
            clear H1
            by_cases c23 : (t185.length : Int) = (wrap64 ((l0.length : Int) + 1))
            · rw [if_pos c23] at H
              have c23b0 : ((t185.length : Int) == (wrap64 ((l0.length : Int) + 1))) = true := beq_iff_eq.mpr c23
              have c23b1 : ((t185.length : Int) != (wrap64 ((l0.length : Int) + 1))) = false := bne_eq_false_iff_eq.mpr c23
              clear c23
              (first | rw [c23b0] | (simp only [i64_w, i32_w]; rw [c23b0]) | skip)
              by_cases c24 : t193 = true
              · subst c24
                have H1 : ((stolonref12_Right.f kj3 t188).bind fun t196 => (if t196 = true then (stolonlaw12_HeapStays.j1 kj3 t183 t188 ((t188.length : Int) != (l0.length : Int)) a1_0 a1_1 t191 t192) else (stolonlaw12_HeapStays.j1 kj3 t183 t188 true a1_0 a1_1 t191 t192))) = some r := by rw [if_pos rfl] at H; exact H
                clear H
                have H := H1
                clear H1
                replace H := Option.bind_eq_some_iff.mp H
                obtain ⟨t196, A250, H⟩ := H
                replace H : (if t196 = true then (stolonlaw12_HeapStays.j1 kj3 t183 t188 ((t188.length : Int) != (l0.length : Int)) a1_0 a1_1 t191 t192) else (stolonlaw12_HeapStays.j1 kj3 t183 t188 true a1_0 a1_1 t191 t192)) = some r := H
                have A25 := Aside0.mk A250
                clear A250
                by_cases c26 : t196 = true
                · subst c26
                  have H1 : (stolonlaw12_HeapStays.j1 kj3 t183 t188 ((t188.length : Int) != (l0.length : Int)) a1_0 a1_1 t191 t192) = some r := by rw [if_pos rfl] at H; exact H
                  clear H
                  have H := H1
                  clear H1
                  have H' := Aside0.mk H
                  clear H
                  go_wp2_with (first | ((with_reducible refine gate_callee (f := 10) rfl ?_); refine goesL_ (some 31) rfl rfl Try.func10 (by kernel_rfl) rfl #[.slice Ao16 t185.length co16] rfl (by (try simp only [List.map_toArray, List.map_cons, List.map_nil]); first | done | rfl | (simp only [List.length_drop, List.length_take]; rfl)) ?_; (with_reducible refine (stolonref12_Right.calls kj3 _ _ t185 true _ ?side1 ?side2 A21.out).mono ?_); (case side1 => refine (Kd.R_reads' (e := 24) (base := w.heap.size) (ok := fun k_ => (((True ∧ k_ ≠ gb182) ∧ some k_ ≠ (v189 : Value).ownBlock) ∧ k_ ≠ gb194)) (n := t185.length) (c := co16) ?_).2.2; exact (by (with_reducible repeat (first | apply Kd.R_alloc | apply Kd.R_drewN | apply Kd.R_drew)); exact (Kd.R_mono (Kd.R_far (p := ⟨gb194, 1, none⟩) (Kd.R_far (p := ⟨gb194, 0, none⟩) (Kd.R_mono HO187.out (fun k_ hk => (⟨hk, hk.2⟩ : _ ∧ k_ ≠ gb194))) (fun _ hk => hk.2) (.int .i64 t191)) (fun _ hk => hk.2) (.int .i64 t192)) (fun _ h_ => h_.1)))); (case side2 => exact (Kd.R_reads' HO187.out).2.1); rintro e w27 ⟨rfl, hb⟩; refine ⟨_, rfl, ?_⟩; have n0_ := Aside0.mk (Kd.R_below (by (with_reducible repeat (first | apply Kd.R_alloc | apply Kd.R_drewN | apply Kd.R_drew)); exact (Kd.R_mono (Kd.R_far (p := ⟨gb194, 1, none⟩) (Kd.R_far (p := ⟨gb194, 0, none⟩) (Kd.R_mono HO187.out (fun k_ hk => (⟨hk, hk.2⟩ : _ ∧ k_ ≠ gb194))) (fun _ hk => hk.2) (.int .i64 t191)) (fun _ hk => hk.2) (.int .i64 t192)) (fun _ h_ => h_.1))) hb); have n1_ := Aside0.mk (Kd.R_below (by (with_reducible repeat (first | apply Kd.R_alloc | apply Kd.R_drewN | apply Kd.R_drew)); exact (Kd.R_mono (Kd.R_far (p := ⟨gb194, 1, none⟩) (Kd.R_far (p := ⟨gb194, 0, none⟩) (Kd.R_mono HO190.out (fun k_ hk => (⟨hk, hk.2⟩ : _ ∧ k_ ≠ gb194))) (fun _ hk => hk.2) (.int .i64 t191)) (fun _ hk => hk.2) (.int .i64 t192)) (fun _ h_ => h_.1))) hb); have n2_ := Aside0.mk (blk_below (g := gb182) (o := .cells #[.int .i64 a1_0, .int .i64 a1_1] 24 (0, 0)) (by (with_reducible repeat (first | refine blk_drewN ?_ _ | refine blk_drew ?_ | refine blk_alloc ?_ _)); refine blk_far ?_ NB182_194.out _; (with_reducible repeat (first | refine blk_drewN ?_ _ | refine blk_drew ?_ | refine blk_alloc ?_ _)); refine blk_far ?_ NB182_194.out _; (with_reducible repeat (first | refine blk_drewN ?_ _ | refine blk_drew ?_ | refine blk_alloc ?_ _)); exact BK182.out) hb); have n3_ := Aside0.mk (blk_below (g := gb194) (o := .cells #[.int .i64 t191, .int .i64 t192] 24 (0, 0)) (by (with_reducible repeat (first | refine blk_drewN ?_ _ | refine blk_drew ?_ | refine blk_alloc ?_ _)); refine blk_put (cs := #[.int .i64 t191, .int .i64 0]) ?_ 1 _ rfl; (with_reducible repeat (first | refine blk_drewN ?_ _ | refine blk_drew ?_ | refine blk_alloc ?_ _)); refine blk_put (cs := #[.int .i64 0, .int .i64 0]) ?_ 0 _ rfl; (with_reducible repeat (first | refine blk_drewN ?_ _ | refine blk_drew ?_ | refine blk_alloc ?_ _)); exact BK194.out) hb); have n4_ := Aside0.mk (below_step (by repeat (first | (with_reducible first | exact HB.out | apply below_alloc | apply pw_below_drewN | apply below_drew1 | refine below_set ?_ GE182.out | refine below_set ?_ GE194.out) | exact HB.out)) hb); clear HO187; clear HO190; clear BK182; clear BK194; clear HB; have HO187 := n0_; have HO190 := n1_; have BK182 := n2_; have BK194 := n3_; have HB := n4_; clear n0_ n1_ n2_ n3_ n4_; (try clear hb); (try clear hb2); (try clear hk); (try clear hi); obtain ⟨Ao28, co28, eo28⟩ := Kd.R_slice HO190.out; subst eo28) | (go_at_call 10; (with_reducible refine (stolonref12_Right.calls kj3 _ _ t188 true _ ?side1 ?side2 A25.out).mono ?_); (case side1 => repeat (first | exact (Kd.R_reads' HO190.out).2.2 | (with_reducible refine Kd.C_alloc ?_ _) | (with_reducible refine Kd.C_drewN ?_ _) | (with_reducible refine Kd.C_drew ?_))); (case side2 => exact (Kd.R_reads' HO190.out).2.1); rintro e w29 ⟨rfl, hb⟩; have n0_ := Aside0.mk (Kd.R_below (by (with_reducible repeat (first | apply Kd.R_alloc | apply Kd.R_drewN | apply Kd.R_drew)); exact HO187.out) hb); have n1_ := Aside0.mk (Kd.R_below (by (with_reducible repeat (first | apply Kd.R_alloc | apply Kd.R_drewN | apply Kd.R_drew)); exact HO190.out) hb); have n2_ := Aside0.mk (blk_below (g := gb182) (o := .cells #[.int .i64 a1_0, .int .i64 a1_1] 24 (0, 0)) (by (with_reducible repeat (first | refine blk_drewN ?_ _ | refine blk_drew ?_ | refine blk_alloc ?_ _)); exact BK182.out) hb); have n3_ := Aside0.mk (blk_below (g := gb194) (o := .cells #[.int .i64 t191, .int .i64 t192] 24 (0, 0)) (by (with_reducible repeat (first | refine blk_drewN ?_ _ | refine blk_drew ?_ | refine blk_alloc ?_ _)); exact BK194.out) hb); have n4_ := Aside0.mk (below_step (by repeat (first | (with_reducible first | exact HB.out | apply below_alloc | apply pw_below_drewN | apply below_drew1 | refine below_set ?_ GE182.out | refine below_set ?_ GE194.out) | exact HB.out)) hb); clear HO187; clear HO190; clear BK182; clear BK194; clear HB; have HO187 := n0_; have HO190 := n1_; have BK182 := n2_; have BK194 := n3_; have HB := n4_; clear n0_ n1_ n2_ n3_ n4_; (try clear hb); (try clear hb2); (try clear hk); (try clear hi)))
                  go_meet
                  case rel => exact ⟨_, (((t188.length : Int) != (l0.length : Int))), (by first | rfl | (simp; done) | (simp [*]; done)), H', ⟨by have := HJ3.out; first | omega | exact Nat.le_refl _⟩, ⟨by (with_reducible repeat (first | apply Kd.R_alloc | apply Kd.R_drewN | apply Kd.R_drew)); exact Kd.R_mono HO190.out (fun _ hk => ⟨hk.1.2, hk.2⟩)⟩, ⟨by (with_reducible repeat (first | refine blk_drewN ?_ _ | refine blk_drew ?_ | refine blk_alloc ?_ _)); exact BK182.out⟩, ⟨by (with_reducible repeat (first | refine blk_drewN ?_ _ | refine blk_drew ?_ | refine blk_alloc ?_ _)); exact BK194.out⟩, ⟨by repeat (first | (with_reducible first | exact HB.out | apply below_alloc | apply pw_below_drewN | apply below_drew1 | refine below_set ?_ GE182.out | refine below_set ?_ GE194.out) | exact HB.out)⟩⟩
                · replace c26 := Bool.eq_false_iff.mpr c26
                  subst c26
                  have H1 : (stolonlaw12_HeapStays.j1 kj3 t183 t188 true a1_0 a1_1 t191 t192) = some r := by rw [if_neg (show ¬ (false = true) by decide)] at H; exact H
                  clear H
                  have H := H1
                  clear H1
                  cases kj3 with
                  | zero => exact absurd H (by simp [stolonlaw12_HeapStays.j1])
                  | succ k_ =>
                    rw [stolonlaw12_HeapStays.j1] at H
                    exact absurd ((Option.some.inj ((if_pos rfl).symm.trans H)).trans hTrue.out) (by simp)
              · replace c24 := Bool.eq_false_iff.mpr c24
                subst c24
                have H1 : (stolonlaw12_HeapStays.j1 kj3 t183 t188 true a1_0 a1_1 t191 t192) = some r := by rw [if_neg (show ¬ (false = true) by decide)] at H; exact H
                clear H
                have H := H1
                clear H1
                cases kj3 with
                | zero => exact absurd H (by simp [stolonlaw12_HeapStays.j1])
                | succ k_ =>
                  rw [stolonlaw12_HeapStays.j1] at H
                  exact absurd ((Option.some.inj ((if_pos rfl).symm.trans H)).trans hTrue.out) (by simp)
            · rw [if_neg c23] at H
              have c23b0 : ((t185.length : Int) == (wrap64 ((l0.length : Int) + 1))) = false := beq_eq_false_iff_ne.mpr c23
              have c23b1 : ((t185.length : Int) != (wrap64 ((l0.length : Int) + 1))) = true := bne_iff_ne.mpr c23
              (first | rw [c23b0] | (simp only [i64_w, i32_w]; rw [c23b0]) | skip)
              cases kj3 with
              | zero => exact absurd H (by simp [stolonlaw12_HeapStays.j1])
              | succ k_ =>
                rw [stolonlaw12_HeapStays.j1] at H
                exact absurd ((Option.some.inj ((if_pos rfl).symm.trans H)).trans hTrue.out) (by simp)
          · replace c22 := Bool.eq_false_iff.mpr c22
            subst c22
            have H1 : (stolonlaw12_HeapStays.j1 kj3 t183 t188 true a1_0 a1_1 t191 t192) = some r := by rw [if_neg (show ¬ (false = true) by decide)] at H; exact H
            clear H
            have H := H1
            clear H1
            cases kj3 with
            | zero => exact absurd H (by simp [stolonlaw12_HeapStays.j1])
            | succ k_ =>
              rw [stolonlaw12_HeapStays.j1] at H
              exact absurd ((Option.some.inj ((if_pos rfl).symm.trans H)).trans hTrue.out) (by simp)
        case rest =>
          clear HC13
          try clear c1
          try clear c2
          try clear p2
          try clear c3
          try clear p6
          try clear c7
          try clear c7b0
          try clear c7b1
          try clear c9
          try clear c10
          try clear c11
          try clear c12
          try clear c19
          try clear c22
          try clear c23
          try clear c23b0
          try clear c23b1
          try clear c24
          try clear c26
          try clear hcz14_0
          try clear hcz14_1
          try clear hcz20_0
          try clear hcz20_1
          try clear hfz14_0
          try clear hfz14_1
          try clear hfz20_0
          try clear hfz20_1
          try clear p2
          obtain ⟨kq, x56_12, rfl, HA, HJ12, HO_7, BK182, BK194, HB⟩ := hcut
          cases kq with
          | zero => exact absurd HA.out (by simp [stolonlaw12_HeapStays.j1])
          | succ kj12 =>
            have H := HA.out
            clear HA
            simp only [stolonlaw12_HeapStays.j1] at H
            by_cases c30 : x56_12 = true
            · subst c30
              have H1 : (some false) = some r := by rw [if_pos rfl] at H; exact H
              clear H
              have H := H1
              clear H1
              exact absurd ((Option.some.inj H).trans hTrue.out) (by simp)
            · replace c30 := Bool.eq_false_iff.mpr c30
              subst c30
              have H1 : (stolonlaw12_HeapStays.l0 kj12 t183 t188 0 a1_0 a1_1 t191 t192) = some r := by rw [if_neg (show ¬ (false = true) by decide)] at H; exact H
              clear H
              have H := H1
              clear H1
              have H' := Aside0.mk H
              clear H
              go_wp2
              go_loopg [10] kj12 (fun kq v10 w' => ∃ (x10_3 : Int), v10 = .int .i64 x10_3 ∧ Aside0 (stolonlaw12_HeapStays.l0 kq t183 t188 x10_3 a1_0 a1_1 t191 t192 = some r) ∧ Aside0 (kq ≤ kj12) ∧ Aside0 (Kd.R k24 24 w' w.heap.size (fun k_ => k_ ≠ gb182 ∧ k_ ≠ gb194) v189 t188) ∧ Aside0 (w'.heap[gb182]? = some (.cells #[.int .i64 a1_0, .int .i64 a1_1] 24 (0, 0))) ∧ Aside0 (w'.heap[gb194]? = some (.cells #[.int .i64 t191, .int .i64 t192] 24 (0, 0))) ∧ Aside0 (Below w.heap.size w w'))
              case atStart => exact ⟨(0), (by first | rfl | (simp; done) | (simp [*]; done)), H', ⟨Nat.le_refl _⟩, ⟨by (with_reducible repeat (first | apply Kd.R_alloc | apply Kd.R_drewN | apply Kd.R_drew)); exact HO_7.out⟩, ⟨by (with_reducible repeat (first | refine blk_drewN ?_ _ | refine blk_drew ?_ | refine blk_alloc ?_ _)); exact BK182.out⟩, ⟨by (with_reducible repeat (first | refine blk_drewN ?_ _ | refine blk_drew ?_ | refine blk_alloc ?_ _)); exact BK194.out⟩, ⟨by repeat (first | (with_reducible first | exact HB.out | apply below_alloc | apply pw_below_drewN | apply below_drew1 | refine below_set ?_ GE182.out | refine below_set ?_ GE194.out) | exact HB.out)⟩⟩
              case round =>
                clear H'
                try clear c1
                try clear c2
                try clear p2
                try clear c3
                try clear p6
                try clear c7
                try clear c7b0
                try clear c7b1
                try clear c9
                try clear c10
                try clear c11
                try clear c12
                try clear c19
                try clear c22
                try clear c23
                try clear c23b0
                try clear c23b1
                try clear c24
                try clear c26
                try clear c30
                try clear hcz14_0
                try clear hcz14_1
                try clear hcz20_0
                try clear hcz20_1
                try clear hfz14_0
                try clear hfz14_1
                try clear hfz20_0
                try clear hfz20_1
                try clear p2
                try clear p6
                obtain ⟨x10_3, rfl, HA, HK3, HO_7, BK182, BK194, HB⟩ := hrel
                cases gk with
                | zero => exact absurd HA.out (by simp [stolonlaw12_HeapStays.l0])
                | succ k3 =>
                  have H := HA.out
                  clear HA
                  simp only [stolonlaw12_HeapStays.l0] at H
                  by_cases c31 : x10_3 < (t188.length : Int)
                  · rw [if_pos c31] at H
                    have c31b0 : decide (x10_3 < (t188.length : Int)) = true := decide_eq_true c31
                    clear c31
                    by_cases c32 : 0 ≤ x10_3
                    · rw [if_pos c32] at H
                      have c32b0 : decide (0 ≤ x10_3) = true := decide_eq_true c32
                      clear c32
                      replace H := Option.bind_eq_some_iff.mp H
                      obtain ⟨t198, A330, H⟩ := H
                      replace H : (if t198 = true then (some false) else (stolonlaw12_HeapStays.l0 k3 t183 t188 (wrap64 (x10_3 + 1)) a1_0 a1_1 t191 t192)) = some r := H
                      have A33 := Aside0.mk A330
                      clear A330
                      by_cases c34 : t198 = true
                      · subst c34
                        have H1 : (some false) = some r := by rw [if_pos rfl] at H; exact H
                        clear H
                        have H := H1
                        clear H1
                        exact absurd ((Option.some.inj H).trans hTrue.out) (by simp)
                      · replace c34 := Bool.eq_false_iff.mpr c34
                        subst c34
                        have H1 : (stolonlaw12_HeapStays.l0 k3 t183 t188 (wrap64 (x10_3 + 1)) a1_0 a1_1 t191 t192) = some r := by rw [if_neg (show ¬ (false = true) by decide)] at H; exact H
                        clear H
                        have H := H1
                        clear H1
                        have H' := Aside0.mk H
                        clear H
                        obtain ⟨Ao35, co35, eo35⟩ := Kd.R_slice HO_7.out
                        subst eo35
                        try go_wp2
                        have n0_ := Aside0.mk (Kd.R_drew HO_7.out)
                        have n1_ := Aside0.mk (blk_drew BK182.out)
                        have n2_ := Aside0.mk (blk_drew BK194.out)
                        have n3_ := Aside0.mk (below_drew1 HB.out)
                        clear HO_7
                        clear BK182
                        clear BK194
                        clear HB
                        have HO_7 := n0_
                        have BK182 := n1_
                        have BK194 := n2_
                        have HB := n3_
                        clear n0_ n1_ n2_ n3_
                        have p197 : 0 ≤ (x10_3 : Int) := of_decide_eq_true (by first | (with_reducible assumption) | assumption)
                        have q197 : x10_3 < (t188.length : Int) := of_decide_eq_true (by first | (with_reducible assumption) | assumption)
                        obtain ⟨ad197, e197, hx197_0, hx197_1⟩ := at_T24 (Kd.R_reads' HO_7.out).2.2 x10_3 p197 q197
                        cases e197
                        replace p197 := eq_true p197
                        replace q197 := eq_true q197
                        refine start_ (n := 6) (S := fun w' => w'.cell? ⟨gb194, 0, none⟩ = some (.int .i64 t191) ∧ w'.cell? ⟨gb194, 1, none⟩ = some (.int .i64 t192) ∧ w'.cell? (ad197.add ((x10_3).toNat * 2)) = some (.int .i64 ((rd_T24 t188 x10_3).f0)) ∧ w'.cell? ⟨(ad197.add ((x10_3).toNat * 2)).block, (ad197.add ((x10_3).toNat * 2)).off + 1, none⟩ = some (.int .i64 ((rd_T24 t188 x10_3).f1))) (ds := []) #[false, false, false, false, false, false] (by kernel_rfl) rfl rfl ⟨(blk_cell BK194.out 0).trans rfl, (blk_cell BK194.out 1).trans rfl, hx197_0, hx197_1⟩ (fun hHeld => ?_)
                        generalize wr.drew = w36 at HO_7 BK182 BK194 HB hx197_0 hx197_1 hHeld ⊢
                        refine pure_ (i := 0) (N := some 63) (v := ?_) (a' := ?_) #[true, false, false, false, false, false] rfl rfl (by kernel_rfl) (fun _ _ _ h => h) (Or.inl ⟨by rfl, ?_⟩) ?_ ?_
                        rotate_left
                        · intro w'
                          go_simp
                          with_reducible rfl
                        rotate_left
                        · simp only [Act.put, List.setIfInBounds_toArray, List.set_cons_zero, List.set_cons_succ, i64_w, i32_w]
                          rfl
                        refine pure_ (i := 1) (N := some 64) (v := ?_) (a' := ?_) #[true, true, false, false, false, false] rfl rfl (by kernel_rfl) (fun _ _ _ h => h) (Or.inl ⟨by rfl, ?_⟩) ?_ ?_
                        rotate_left
                        · intro w'
                          go_simp
                          with_reducible rfl
                        rotate_left
                        · simp only [Act.put, List.setIfInBounds_toArray, List.set_cons_zero, List.set_cons_succ, i64_w, i32_w]
                          rfl
                        refine pure_ (i := 2) (N := some 65) (v := ?_) (a' := ?_) #[true, true, true, false, false, false] rfl rfl (by kernel_rfl) (fun _ _ _ h => h) (Or.inl ⟨by rfl, ?_⟩) ?_ ?_
                        rotate_left
                        · intro w'
                          go_simp
                          with_reducible rfl
                        rotate_left
                        · simp only [Act.put, List.setIfInBounds_toArray, List.set_cons_zero, List.set_cons_succ, i64_w, i32_w]
                          rfl
                        refine take_ (i := 3) (N := some 66) (v := ?_) (a' := ?_) #[true, true, true, true, false, false] rfl rfl (by kernel_rfl) (fun _ _ _ h => h) (Or.inl ⟨by rfl, ?_⟩) hHeld ?_ ?_
                        rotate_left
                        · rintro w' ⟨s0, s1, s2, s3⟩
                          (try simp only [add_plain] at s0 s1 s2 s3)
                          go_simp
                          with_reducible rfl
                        rotate_left
                        · simp only [Act.put, List.setIfInBounds_toArray, List.set_cons_zero, List.set_cons_succ, i64_w, i32_w]
                          rfl
                        refine take_ (i := 4) (N := some 67) (v := ?_) (a' := ?_) #[true, true, true, true, true, false] rfl rfl (by kernel_rfl) (fun _ _ _ h => h) (Or.inl ⟨by rfl, ?_⟩) hHeld ?_ ?_
                        rotate_left
                        · rintro w' ⟨s0, s1, s2, s3⟩
                          (try simp only [add_plain] at s0 s1 s2 s3)
                          go_simp
                          with_reducible rfl
                        rotate_left
                        · simp only [Act.put, List.setIfInBounds_toArray, List.set_cons_zero, List.set_cons_succ, i64_w, i32_w]
                          rfl
                        refine one_ (i := 5) (N := some 68) #[true, true, true, true, true, true] rfl rfl (by kernel_rfl) (by decide) (fun K hK => ?_)
                        refine goes_ Try.func13 (by kernel_rfl) rfl #[.agg #[.int .i64 ((rd_T24 t188 x10_3).f0), .int .i64 ((rd_T24 t188 x10_3).f1)], .agg #[.int .i64 t191, .int .i64 t192]] (by rfl) rfl rfl (by (try simp only [List.map_toArray, List.map_cons, List.map_nil]); first | done | rfl | (simp only [List.length_drop, List.length_take]; rfl)) ?_
                        with_reducible refine (heap_Less.calls k3 ((rd_T24 t188 x10_3).f0) ((rd_T24 t188 x10_3).f1) t191 t192 false _ A33.out).mono ?_
                        rintro e w37 ⟨rfl, hb⟩
                        have HS2_ := (hb.cell (World.block_lt_of_cell? _ _ (hHeld.2.2.1))).trans (hHeld.2.2.1)
                        have HS3_ := (hb.cell (World.block_lt_of_cell? _ _ (hHeld.2.2.2))).trans (hHeld.2.2.2)
                        refine ⟨_, rfl, ?_⟩
                        have n0_ := Aside0.mk (Kd.R_below (by (with_reducible repeat (first | apply Kd.R_alloc | apply Kd.R_drewN | apply Kd.R_drew)); exact HO_7.out) hb)
                        have n1_ := Aside0.mk (blk_below (g := gb182) (o := .cells #[.int .i64 a1_0, .int .i64 a1_1] 24 (0, 0)) (by (with_reducible repeat (first | refine blk_drewN ?_ _ | refine blk_drew ?_ | refine blk_alloc ?_ _)); exact BK182.out) hb)
                        have n2_ := Aside0.mk (blk_below (g := gb194) (o := .cells #[.int .i64 t191, .int .i64 t192] 24 (0, 0)) (by (with_reducible repeat (first | refine blk_drewN ?_ _ | refine blk_drew ?_ | refine blk_alloc ?_ _)); exact BK194.out) hb)
                        have n3_ := Aside0.mk (below_step (by repeat (first | (with_reducible first | exact HB.out | apply below_alloc | apply pw_below_drewN | apply below_drew1 | refine below_set ?_ GE182.out | refine below_set ?_ GE194.out) | exact HB.out)) hb)
                        clear HO_7
                        clear BK182
                        clear BK194
                        clear HB
                        have HO_7 := n0_
                        have BK182 := n1_
                        have BK194 := n2_
                        have HB := n3_
                        clear n0_ n1_ n2_ n3_
                        (try clear hb)
                        (try clear hb2)
                        (try clear hk)
                        (try clear hi)
                        refine hK.out _ _ ⟨(blk_cell BK194.out 0).trans rfl, (blk_cell BK194.out 1).trans rfl, HS2_, HS3_⟩ (fun hHeld => ?_)
                        clear hK K
                        refine norm_ (a' := ?_) ?_ ?_
                        rotate_left
                        · show Act.put _ (some 68) _ = _
                          simp only [Act.put, List.setIfInBounds_toArray, List.set_cons_zero, List.set_cons_succ, i64_w, i32_w]
                          rfl
                        refine done_ (by kernel_rfl) ?_
                        try go_wp2
                        go_roundg k3
                        case measure => have := HJ3.out; have := HJ12.out; have := HK3.out; omega
                        case rel => exact ⟨(wrap64 (x10_3 + 1)), (by first | rfl | (simp; done) | (simp [*]; done)), H', ⟨by have := HJ3.out; have := HJ12.out; have := HK3.out; omega⟩, ⟨by (with_reducible repeat (first | apply Kd.R_alloc | apply Kd.R_drewN | apply Kd.R_drew)); exact HO_7.out⟩, ⟨by (with_reducible repeat (first | refine blk_drewN ?_ _ | refine blk_drew ?_ | refine blk_alloc ?_ _)); exact BK182.out⟩, ⟨by (with_reducible repeat (first | refine blk_drewN ?_ _ | refine blk_drew ?_ | refine blk_alloc ?_ _)); exact BK194.out⟩, ⟨by repeat (first | (with_reducible first | exact HB.out | apply below_alloc | apply pw_below_drewN | apply below_drew1 | refine below_set ?_ GE182.out | refine below_set ?_ GE194.out) | exact HB.out)⟩⟩
                    · rw [if_neg c32] at H
                      exact absurd H (by simp)
                  · rw [if_neg c31] at H
                    have c31b0 : decide (x10_3 < (t188.length : Int)) = false := decide_eq_false c31
                    clear c31
                    by_cases c38 : t183 = true
                    · subst c38
                      have H1 : ((heap_Less.f k3 a1_0 a1_1 t191 t192).bind fun t199 => (some (!t199))) = some r := by rw [if_pos rfl] at H; exact H
                      clear H
                      have H := H1
                      clear H1
                      replace H := Option.bind_eq_some_iff.mp H
                      obtain ⟨t199, A390, H⟩ := H
                      replace H : (some (!t199)) = some r := H
                      have A39 := Aside0.mk A390
                      clear A390
                      obtain rfl := Option.some.inj H
                      obtain ⟨Ao40, co40, eo40⟩ := Kd.R_slice HO_7.out
                      subst eo40
                      have hnb41 := NB182_194.out
                      have hnc41 := NB194_182.out
                      have hcz42_0 : wr.cell? ⟨gb182, 0, none⟩ = some (.int .i64 a1_0) := (blk_cell BK182.out 0).trans rfl
                      have hcz42_1 : wr.cell? ⟨gb182, 1, none⟩ = some (.int .i64 a1_1) := (blk_cell BK182.out 1).trans rfl
                      have hfz42_0 := blk_frozen BK182.out 0
                      have hfz42_1 := blk_frozen BK182.out 1
                      have hcz43_0 : wr.cell? ⟨gb194, 0, none⟩ = some (.int .i64 t191) := (blk_cell BK194.out 0).trans rfl
                      have hcz43_1 : wr.cell? ⟨gb194, 1, none⟩ = some (.int .i64 t192) := (blk_cell BK194.out 1).trans rfl
                      have hfz43_0 := blk_frozen BK194.out 0
                      have hfz43_1 := blk_frozen BK194.out 1
                      go_wp2_with (first | (go_at_call 13; (with_reducible refine (heap_Less.calls k3 a1_0 a1_1 t191 t192 t199 _ A39.out).mono ?_); rintro e w44 ⟨rfl, hb⟩; have n0_ := Aside0.mk (Kd.R_below (by (with_reducible repeat (first | apply Kd.R_alloc | apply Kd.R_drewN | apply Kd.R_drew)); exact HO_7.out) hb); have n1_ := Aside0.mk (blk_below (g := gb182) (o := .cells #[.int .i64 a1_0, .int .i64 a1_1] 24 (0, 0)) (by (with_reducible repeat (first | refine blk_drewN ?_ _ | refine blk_drew ?_ | refine blk_alloc ?_ _)); exact BK182.out) hb); have n2_ := Aside0.mk (blk_below (g := gb194) (o := .cells #[.int .i64 t191, .int .i64 t192] 24 (0, 0)) (by (with_reducible repeat (first | refine blk_drewN ?_ _ | refine blk_drew ?_ | refine blk_alloc ?_ _)); exact BK194.out) hb); have n3_ := Aside0.mk (below_step (by repeat (first | (with_reducible first | exact HB.out | apply below_alloc | apply pw_below_drewN | apply below_drew1 | refine below_set ?_ GE182.out | refine below_set ?_ GE194.out) | exact HB.out)) hb); clear HO_7; clear BK182; clear BK194; clear HB; have HO_7 := n0_; have BK182 := n1_; have BK194 := n2_; have HB := n3_; clear n0_ n1_ n2_ n3_; (try clear hb); (try clear hb2); (try clear hk); (try clear hi)))
                      go_ret
                      exact ⟨by first | rfl | (simp [errW_none, errW_some] <;> rfl) | (simp [*, errW_none, errW_some] <;> rfl), by repeat (first | (with_reducible first | exact HB.out | apply below_alloc | apply pw_below_drewN | apply below_drew1 | refine below_set ?_ GE182.out | refine below_set ?_ GE194.out) | exact HB.out)⟩
                    · replace c38 := Bool.eq_false_iff.mpr c38
                      subst c38
                      have H1 : (some false) = some r := by rw [if_neg (show ¬ (false = true) by decide)] at H; exact H
                      clear H
                      have H := H1
                      clear H1
                      exact absurd ((Option.some.inj H).trans hTrue.out) (by simp)

end Go.Proofs.Ytlihbdinghoeeab.P
