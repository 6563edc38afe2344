/- For each Go function a Lean function, and the proof that a call comes to what it tells: made by program out of the translation (the kit's print, with texts by hand put in). No condition. -/
import Derived.Test.YtlihbdinghoeeaaPx0
import Derived.Test.YtlihbdinghoeeaaPx1
import Derived.Test.YtlihbdinghoeeaaPx5
import Derived.Test.YtlihbdinghoeeaaPx7
import Derived.Test.YtlihbdinghoeeaaPx8
import Derived.Test.YtlihbdinghoeeaaPx9
import Derived.Test.YtlihbdinghoeeaaPx11
namespace Go.Proofs.Ytlihbdinghoeeaa.P
open Go.RowKit Go.Proofs.YtlihbdinghoeeaaW.PrintWords Go.Proofs.YtlihbdinghoeeaaW.PrintLast Go.Proofs.YtlihbdinghoeeaaW.PrintMore
attribute [local go_sem] max2_int min2_int max_two min_two max_three min_three max_four min_four   -- for this text's walks alone
set_option linter.unusedVariables false
set_option linter.unusedSimpArgs false

attribute [local go_sem high] eqA27
/-! ### stolonlaw10_QuerierStays: function 4 -/
mutual
def stolonlaw10_QuerierStays.j0 : Nat → Int → Bool → Bool → Int → Int → Int → Int → Int → Int → Int → Int → Int → Option (Bool)
  | 0, _, _, _, _, _, _, _, _, _, _, _, _ => none
  | k + 1, x2, x7, x19, x194000, x194001, x194002, x194003, x195000, x195001, x195002, x195003, x195004 => if x19 = true then (some x7) else ((querier_Hear.f x194000 x194001 x194002 x194003 x195000 x195001 x195002 x195003 x195004 x2).bind fun bt198 => ((querier_Tick.f x194000 x194001 x194002 x194003 x195000 x195001 x195002 x195003 x195004).bind fun bt204 => ((stolonref10_Right.f k bt198.1 bt198.2.1 bt198.2.2.1 bt198.2.2.2.1 bt198.2.2.2.2).bind fun t211 => (if t211 = true then ((stolonref10_Right.f k bt204.1 bt204.2.1 bt204.2.2.1 bt204.2.2.2.1 bt204.2.2.2.2.1).bind fun t212 => (if t212 = true then ((querier_Hear.f x194000 x194001 x194002 x194003 bt198.1 bt198.2.1 bt198.2.2.1 bt198.2.2.2.1 bt198.2.2.2.2 x2).bind fun bt213 => (stolonlaw10_QuerierStays.j1 k x2 x7 (!(bt213.1 == bt198.1) || (!(bt213.2.1 == bt198.2.1) || (!(bt213.2.2.1 == bt198.2.2.1) || (!(bt213.2.2.2.1 == bt198.2.2.2.1) || (!(bt213.2.2.2.2 == bt198.2.2.2.2)))))) x195000 x195001 x195002 x195003 x195004 bt198.1 bt198.2.1 bt198.2.2.1 bt198.2.2.2.1 bt198.2.2.2.2)) else (stolonlaw10_QuerierStays.j1 k x2 x7 true x195000 x195001 x195002 x195003 x195004 bt198.1 bt198.2.1 bt198.2.2.1 bt198.2.2.2.1 bt198.2.2.2.2))) else (stolonlaw10_QuerierStays.j1 k x2 x7 true x195000 x195001 x195002 x195003 x195004 bt198.1 bt198.2.1 bt198.2.2.1 bt198.2.2.2.1 bt198.2.2.2.2)))))
def stolonlaw10_QuerierStays.j1 : Nat → Int → Bool → Bool → Int → Int → Int → Int → Int → Int → Int → Int → Int → Int → Option (Bool)
  | 0, _, _, _, _, _, _, _, _, _, _, _, _, _ => none
  | k + 1, x2, x7, x46, x195000, x195001, x195002, x195003, x195004, x204000, x204001, x204002, x204003, x204004 => if x46 = true then (some false) else (if x2 = 0 then (if x7 = true then (some (x204000 == x195000 && (x204001 == x195001 && (x204002 == x195002 && (x204003 == x195003 && (x204004 == x195004)))))) else (some false)) else (if x2 ≥ x195000 then (if x7 = true then (some (x204000 == x195000 && (x204001 == x195001 && (x204002 == x195002 && (x204003 == x195003 && (x204004 == x195004)))))) else (some false)) else (if x7 = true then ((querier_Asks.f x204000 x204001 x204002 x204003 x204004).bind fun t218 => (if t218 = true then (some false) else (some (decide (x204001 ≤ x2))))) else (some false))))
end
def stolonlaw10_QuerierStays.f (k : Nat) (a0_0 : Int) (a0_1 : Int) (a0_2 : Int) (a0_3 : Int) (a1_0 : Int) (a1_1 : Int) (a1_2 : Int) (a1_3 : Int) (a1_4 : Int) (a2 : Int) : Option (Bool) := (stolonlaw10_shown.f).bind fun t195 => ((stolonref10_May.f a0_0 a0_1 a0_2 a0_3).bind fun t196 => (if t196 = true then ((stolonref10_Right.f k a1_0 a1_1 a1_2 a1_3 a1_4).bind fun t197 => (stolonlaw10_QuerierStays.j0 k a2 t195 (!t197) a0_0 a0_1 a0_2 a0_3 a1_0 a1_1 a1_2 a1_3 a1_4)) else (stolonlaw10_QuerierStays.j0 k a2 t195 true a0_0 a0_1 a0_2 a0_3 a1_0 a1_1 a1_2 a1_3 a1_4)))
theorem stolonlaw10_QuerierStays.mono_l : ∀ k, (∀ y0 y1 y2 y3 y4 y5 y6 y7 y8 y9 y10 y11, LeO (stolonlaw10_QuerierStays.j0 k y0 y1 y2 y3 y4 y5 y6 y7 y8 y9 y10 y11) (stolonlaw10_QuerierStays.j0 (k + 1) y0 y1 y2 y3 y4 y5 y6 y7 y8 y9 y10 y11)) ∧ (∀ y0 y1 y2 y3 y4 y5 y6 y7 y8 y9 y10 y11 y12, LeO (stolonlaw10_QuerierStays.j1 k y0 y1 y2 y3 y4 y5 y6 y7 y8 y9 y10 y11 y12) (stolonlaw10_QuerierStays.j1 (k + 1) y0 y1 y2 y3 y4 y5 y6 y7 y8 y9 y10 y11 y12))
  | 0 => ⟨fun _ _ _ _ _ _ _ _ _ _ _ _ r h => by simp [stolonlaw10_QuerierStays.j0] at h, fun _ _ _ _ _ _ _ _ _ _ _ _ _ r h => by simp [stolonlaw10_QuerierStays.j1] at h⟩
  | k + 1 => by
    obtain ⟨ih0, ih1⟩ := stolonlaw10_QuerierStays.mono_l k
    refine ⟨?_, ?_⟩
    · intro y0 y1 y2 y3 y4 y5 y6 y7 y8 y9 y10 y11
      unfold stolonlaw10_QuerierStays.j0
      repeat' first
      | (with_reducible exact ih0 _ _ _ _ _ _ _ _ _ _ _ _)
      | (with_reducible exact ih1 _ _ _ _ _ _ _ _ _ _ _ _ _)
      | (with_reducible exact stolonref10_Right.mono _ _ _ _ _ _)
      | (with_reducible exact LeO.refl _)
      | (with_reducible exact LeO.none _)
      | (with_reducible refine LeO.ite ?_ ?_)
      | (with_reducible refine LeO.bind ?_ (fun _ => ?_))
      | exact ih0 _ _ _ _ _ _ _ _ _ _ _ _
      | exact ih1 _ _ _ _ _ _ _ _ _ _ _ _ _
      | exact stolonref10_Right.mono _ _ _ _ _ _
      | exact LeO.none _
      | refine LeO.ite ?_ ?_
      | refine LeO.bind ?_ (fun _ => ?_)
    · intro y0 y1 y2 y3 y4 y5 y6 y7 y8 y9 y10 y11 y12
      unfold stolonlaw10_QuerierStays.j1
      repeat' first
      | (with_reducible exact ih0 _ _ _ _ _ _ _ _ _ _ _ _)
      | (with_reducible exact ih1 _ _ _ _ _ _ _ _ _ _ _ _ _)
      | (with_reducible exact stolonref10_Right.mono _ _ _ _ _ _)
      | (with_reducible exact LeO.refl _)
      | (with_reducible exact LeO.none _)
      | (with_reducible refine LeO.ite ?_ ?_)
      | (with_reducible refine LeO.bind ?_ (fun _ => ?_))
      | exact ih0 _ _ _ _ _ _ _ _ _ _ _ _
      | exact ih1 _ _ _ _ _ _ _ _ _ _ _ _ _
      | exact stolonref10_Right.mono _ _ _ _ _ _
      | exact LeO.none _
      | refine LeO.ite ?_ ?_
      | refine LeO.bind ?_ (fun _ => ?_)
theorem stolonlaw10_QuerierStays.mono : ∀ a0 a1 a2 a3 a4 a5 a6 a7 a8 a9 k, LeO (stolonlaw10_QuerierStays.f k a0 a1 a2 a3 a4 a5 a6 a7 a8 a9) (stolonlaw10_QuerierStays.f (k + 1) a0 a1 a2 a3 a4 a5 a6 a7 a8 a9) := by
  intro a0 a1 a2 a3 a4 a5 a6 a7 a8 a9 k
  obtain ⟨ih0, ih1⟩ := stolonlaw10_QuerierStays.mono_l k
  unfold stolonlaw10_QuerierStays.f
  repeat' first
      | (with_reducible exact ih0 _ _ _ _ _ _ _ _ _ _ _ _)
      | (with_reducible exact ih1 _ _ _ _ _ _ _ _ _ _ _ _ _)
      | (with_reducible exact stolonref10_Right.mono _ _ _ _ _ _)
      | (with_reducible exact LeO.refl _)
      | (with_reducible exact LeO.none _)
      | (with_reducible refine LeO.ite ?_ ?_)
      | (with_reducible refine LeO.bind ?_ (fun _ => ?_))
      | exact ih0 _ _ _ _ _ _ _ _ _ _ _ _
      | exact ih1 _ _ _ _ _ _ _ _ _ _ _ _ _
      | exact stolonref10_Right.mono _ _ _ _ _ _
      | exact LeO.none _
      | refine LeO.ite ?_ ?_
      | refine LeO.bind ?_ (fun _ => ?_)
def stolonlaw10_QuerierStays.T6 : Bool × List (List Nat × List Nat) := (true, [([], []), ([0], [0]), ([1], [1]), ([2, 1], [2]), ([3], [3]), ([4, 3, 3], [3, 4]), ([5, 3], [3, 5]), ([3, 6], [3, 6]), ([7, 5], [7]), ([8], [8]), ([8], [8]), ([8], [8]), ([9, 10, 11, 8, 8], [8, 9, 10, 11]), ([8], [8]), ([12, 13, 8], [8, 12, 13]), ([8, 14], [8, 14])])
def stolonlaw10_QuerierStays.B6 : List Nat := [0, 1, 3, 7, 15, 31, 63, 127, 255, 511, 511, 511, 4095, 511, 16383, 32767]
theorem stolonlaw10_QuerierStays.tab6 : rtab .any (opsOf Try.f4 6) = stolonlaw10_QuerierStays.T6 := by kernel_rfl
theorem stolonlaw10_QuerierStays.bits6 : waitsOk stolonlaw10_QuerierStays.T6.2 stolonlaw10_QuerierStays.B6 = true := by kernel_rfl
set_option maxHeartbeats 8000000 in
set_option maxRecDepth 100000 in
theorem stolonlaw10_QuerierStays.calls (k : Nat) (a0_0 : Int) (a0_1 : Int) (a0_2 : Int) (a0_3 : Int) (a1_0 : Int) (a1_1 : Int) (a1_2 : Int) (a1_3 : Int) (a1_4 : Int) (a2 : Int) (r : Bool) (w : World) (hTrue : Aside0 (r = true)) (h : stolonlaw10_QuerierStays.f k a0_0 a0_1 a0_2 a0_3 a1_0 a1_1 a1_2 a1_3 a1_4 a2 = some r) :
    Calls Try.prog 4 #[.agg #[.int .i64 a0_0, .int .i64 a0_1, .int .i64 a0_2, .int .i64 a0_3], .agg #[.int .u32 a1_0, .int .u32 a1_1, .int .i64 a1_2, .int .i64 a1_3, .int .i64 a1_4], .int .u32 a2] w fun e w' => e = .returned (.bool r) ∧ Below w.heap.size w w' := by
  have hu23 := Try.underlying23
  have hu27 := Try.underlying27
  have HB := Aside0.mk (Below.refl w.heap.size w)
  have H : ((stolonlaw10_shown.f).bind fun t195 => ((stolonref10_May.f a0_0 a0_1 a0_2 a0_3).bind fun t196 => (if t196 = true then ((stolonref10_Right.f k a1_0 a1_1 a1_2 a1_3 a1_4).bind fun t197 => (stolonlaw10_QuerierStays.j0 k a2 t195 (!t197) a0_0 a0_1 a0_2 a0_3 a1_0 a1_1 a1_2 a1_3 a1_4)) else (stolonlaw10_QuerierStays.j0 k a2 t195 true a0_0 a0_1 a0_2 a0_3 a1_0 a1_1 a1_2 a1_3 a1_4)))) = some r := h
  clear h
  replace H := Option.bind_eq_some_iff.mp H
  obtain ⟨t195, A40, H⟩ := H
  replace H : ((stolonref10_May.f a0_0 a0_1 a0_2 a0_3).bind fun t196 => (if t196 = true then ((stolonref10_Right.f k a1_0 a1_1 a1_2 a1_3 a1_4).bind fun t197 => (stolonlaw10_QuerierStays.j0 k a2 t195 (!t197) a0_0 a0_1 a0_2 a0_3 a1_0 a1_1 a1_2 a1_3 a1_4)) else (stolonlaw10_QuerierStays.j0 k a2 t195 true a0_0 a0_1 a0_2 a0_3 a1_0 a1_1 a1_2 a1_3 a1_4))) = some r := H
  have A4 := Aside0.mk A40
  clear A40
  have HC5 := Aside0.mk H
  clear H
  go_enter Try.func4, Try.ntmps4
  go_upto_region 2 with (first | ((with_reducible refine gate_dst (N := 3) rfl ?_); refine box_event ?hg (N := 3) ?hd (cs := #[.int .i64 a0_0, .int .i64 a0_1, .int .i64 a0_2, .int .i64 a0_3]) (t := 23) ?hr ?_; (case hd => rfl); (case hg => rfl); (case hr => first | (go_simp; done) | (go_simp; rfl)); intro gb193 hg w6 hbox hb; have n0_ := Aside0.mk (below_step (by repeat (first | (with_reducible first | exact HB.out | apply below_alloc | apply pw_below_drewN | apply below_drew1) | exact HB.out)) hb); have n1_ := Aside0.mk (hbox); have n2_ := Aside0.mk ((by rw [hg]; exact (below_size (by repeat (first | (with_reducible first | exact HB.out | apply below_alloc | apply pw_below_drewN | apply below_drew1) | exact HB.out))) : w.heap.size ≤ gb193)); have n3_ := Aside0.mk ((by rw [hg]; exact (below_size (by repeat (first | (with_reducible first | exact HB.out | apply below_alloc | apply pw_below_drewN | apply below_drew1) | exact HB.out))) : w.heap.size ≤ gb193)); clear HB; have HB := n0_; have BK193 := n1_; have GW193 := n2_; have GE193 := n3_; clear n0_ n1_ n2_ n3_; clear hb hbox hg) | ((with_reducible refine gate_dst (N := 4) rfl ?_); refine box_event ?hg (N := 4) ?hd (cs := #[.int .u32 a1_0, .int .u32 a1_1, .int .i64 a1_2, .int .i64 a1_3, .int .i64 a1_4]) (t := 27) ?hr ?_; (case hd => rfl); (case hg => rfl); (case hr => first | (go_simp; done) | (go_simp; rfl)); intro gb194 hg w7 hbox hb; have n0_ := Aside0.mk (blk_below (g := gb193) (o := .cells #[.int .i64 a0_0, .int .i64 a0_1, .int .i64 a0_2, .int .i64 a0_3] 23 (0, 0)) (by (with_reducible repeat (first | refine blk_drewN ?_ _ | refine blk_drew ?_ | refine blk_alloc ?_ _)); exact BK193.out) hb); have n1_ := Aside0.mk (below_step (by repeat (first | (with_reducible first | exact HB.out | apply below_alloc | apply pw_below_drewN | apply below_drew1 | refine below_set ?_ GE193.out) | exact HB.out)) hb); have n2_ := Aside0.mk (hbox); have n3_ := Aside0.mk ((by rw [hg]; exact (below_size (by repeat (first | (with_reducible first | exact HB.out | apply below_alloc | apply pw_below_drewN | apply below_drew1 | refine below_set ?_ GE193.out) | exact HB.out))) : w.heap.size ≤ gb194)); have n4_ := Aside0.mk ((by rw [hg]; exact (below_size (by repeat (first | (with_reducible first | exact HB.out | apply below_alloc | apply pw_below_drewN | apply below_drew1 | refine below_set ?_ GE193.out) | exact HB.out))) : w.heap.size ≤ gb194)); have n5_ := Aside0.mk ((by rw [hg]; exact Nat.ne_of_lt (blk_lt (g := gb193) (o := .cells #[.int .i64 a0_0, .int .i64 a0_1, .int .i64 a0_2, .int .i64 a0_3] 23 (0, 0)) (by (with_reducible repeat (first | refine blk_drewN ?_ _ | refine blk_drew ?_ | refine blk_alloc ?_ _)); exact BK193.out)) : gb193 ≠ gb194)); have n6_ := Aside0.mk ((by rw [hg]; exact Nat.ne_of_gt (blk_lt (g := gb193) (o := .cells #[.int .i64 a0_0, .int .i64 a0_1, .int .i64 a0_2, .int .i64 a0_3] 23 (0, 0)) (by (with_reducible repeat (first | refine blk_drewN ?_ _ | refine blk_drew ?_ | refine blk_alloc ?_ _)); exact BK193.out)) : gb194 ≠ gb193)); clear BK193; clear HB; have BK193 := n0_; have HB := n1_; have BK194 := n2_; have GW194 := n3_; have GE194 := n4_; have NB193_194 := n5_; have NB194_193 := n6_; clear n0_ n1_ n2_ n3_ n4_ n5_ n6_; clear hb hbox hg) | ((with_reducible refine gate_callee (f := 9) rfl ?_); refine goesL_ (some 11) rfl rfl Try.func9 (by kernel_rfl) rfl #[] rfl (by (try simp only [List.map_toArray, List.map_cons, List.map_nil]); first | done | rfl | (simp only [List.length_drop, List.length_take]; rfl)) ?_; (with_reducible refine (stolonlaw10_shown.calls  t195 _ A4.out).mono ?_); rintro e w8 ⟨rfl, hb⟩; refine ⟨_, rfl, ?_⟩; have n0_ := Aside0.mk (blk_below (g := gb193) (o := .cells #[.int .i64 a0_0, .int .i64 a0_1, .int .i64 a0_2, .int .i64 a0_3] 23 (0, 0)) (by (with_reducible repeat (first | refine blk_drewN ?_ _ | refine blk_drew ?_ | refine blk_alloc ?_ _)); exact BK193.out) hb); have n1_ := Aside0.mk (blk_below (g := gb194) (o := .cells #[.int .u32 a1_0, .int .u32 a1_1, .int .i64 a1_2, .int .i64 a1_3, .int .i64 a1_4] 27 (0, 0)) (by (with_reducible repeat (first | refine blk_drewN ?_ _ | refine blk_drew ?_ | refine blk_alloc ?_ _)); exact BK194.out) hb); have n2_ := Aside0.mk (below_step (by repeat (first | (with_reducible first | exact HB.out | apply below_alloc | apply pw_below_drewN | apply below_drew1 | refine below_set ?_ GE193.out | refine below_set ?_ GE194.out) | exact HB.out)) hb); clear BK193; clear BK194; clear HB; have BK193 := n0_; have BK194 := n1_; have HB := n2_; clear n0_ n1_ n2_; (try clear hb); (try clear hb2); (try clear hk); (try clear hi)))
  (try simp only [Act.put, List.setIfInBounds_toArray, List.set_cons_zero, List.set_cons_succ])
  go_cut [19] (fun v19 wc => ∃ (kq : Nat) (x19_4 : Bool), v19 = .bool x19_4 ∧ Aside0 (stolonlaw10_QuerierStays.j0 kq a2 t195 x19_4 a0_0 a0_1 a0_2 a0_3 a1_0 a1_1 a1_2 a1_3 a1_4 = some r) ∧ Aside0 (kq ≤ k) ∧ Aside0 (wc.heap[gb193]? = some (.cells #[.int .i64 a0_0, .int .i64 a0_1, .int .i64 a0_2, .int .i64 a0_3] 23 (0, 0))) ∧ Aside0 (wc.heap[gb194]? = some (.cells #[.int .u32 a1_0, .int .u32 a1_1, .int .i64 a1_2, .int .i64 a1_3, .int .i64 a1_4] 27 (0, 0))) ∧ Aside0 (Below w.heap.size w wc))
  case first =>
    have H := HC5.out
    clear HC5
    replace H := Option.bind_eq_some_iff.mp H
    obtain ⟨t196, A90, H⟩ := H
    replace H : (if t196 = true then ((stolonref10_Right.f k a1_0 a1_1 a1_2 a1_3 a1_4).bind fun t197 => (stolonlaw10_QuerierStays.j0 k a2 t195 (!t197) a0_0 a0_1 a0_2 a0_3 a1_0 a1_1 a1_2 a1_3 a1_4)) else (stolonlaw10_QuerierStays.j0 k a2 t195 true a0_0 a0_1 a0_2 a0_3 a1_0 a1_1 a1_2 a1_3 a1_4)) = some r := H
    have A9 := Aside0.mk A90
    clear A90
    by_cases c10 : t196 = true
    · subst c10
      have H1 : ((stolonref10_Right.f k a1_0 a1_1 a1_2 a1_3 a1_4).bind fun t197 => (stolonlaw10_QuerierStays.j0 k a2 t195 (!t197) a0_0 a0_1 a0_2 a0_3 a1_0 a1_1 a1_2 a1_3 a1_4)) = some r := by rw [if_pos rfl] at H; exact H
      clear H
      have H := H1
      clear H1
      replace H := Option.bind_eq_some_iff.mp H
      obtain ⟨t197, A110, H⟩ := H
      replace H : (stolonlaw10_QuerierStays.j0 k a2 t195 (!t197) a0_0 a0_1 a0_2 a0_3 a1_0 a1_1 a1_2 a1_3 a1_4) = some r := H
      have A11 := Aside0.mk A110
      clear A110
      have H' := Aside0.mk H
      clear H
      have hnb12 := NB193_194.out
      have hnc12 := NB194_193.out
      have hcz13_0 : w8.cell? ⟨gb193, 0, none⟩ = some (.int .i64 a0_0) := (blk_cell BK193.out 0).trans rfl
      have hcz13_1 : w8.cell? ⟨gb193, 1, none⟩ = some (.int .i64 a0_1) := (blk_cell BK193.out 1).trans rfl
      have hcz13_2 : w8.cell? ⟨gb193, 2, none⟩ = some (.int .i64 a0_2) := (blk_cell BK193.out 2).trans rfl
      have hcz13_3 : w8.cell? ⟨gb193, 3, none⟩ = some (.int .i64 a0_3) := (blk_cell BK193.out 3).trans rfl
      have hfz13_0 := blk_frozen BK193.out 0
      have hfz13_1 := blk_frozen BK193.out 1
      have hfz13_2 := blk_frozen BK193.out 2
      have hfz13_3 := blk_frozen BK193.out 3
      go_wp2_with (first | ((with_reducible refine gate_callee (f := 13) rfl ?_); refine goesL_ (some 13) rfl rfl Try.func13 (by kernel_rfl) rfl #[.agg #[.int .i64 a0_0, .int .i64 a0_1, .int .i64 a0_2, .int .i64 a0_3]] rfl (by (try simp only [List.map_toArray, List.map_cons, List.map_nil]); first | done | rfl | (simp only [List.length_drop, List.length_take]; rfl)) ?_; (with_reducible refine (stolonref10_May.calls a0_0 a0_1 a0_2 a0_3 true _ A9.out).mono ?_); rintro e w14 ⟨rfl, hb⟩; refine ⟨_, rfl, ?_⟩; have n0_ := Aside0.mk (blk_below (g := gb193) (o := .cells #[.int .i64 a0_0, .int .i64 a0_1, .int .i64 a0_2, .int .i64 a0_3] 23 (0, 0)) (by (with_reducible repeat (first | refine blk_drewN ?_ _ | refine blk_drew ?_ | refine blk_alloc ?_ _)); exact BK193.out) hb); have n1_ := Aside0.mk (blk_below (g := gb194) (o := .cells #[.int .u32 a1_0, .int .u32 a1_1, .int .i64 a1_2, .int .i64 a1_3, .int .i64 a1_4] 27 (0, 0)) (by (with_reducible repeat (first | refine blk_drewN ?_ _ | refine blk_drew ?_ | refine blk_alloc ?_ _)); exact BK194.out) hb); have n2_ := Aside0.mk (below_step (by repeat (first | (with_reducible first | exact HB.out | apply below_alloc | apply pw_below_drewN | apply below_drew1 | refine below_set ?_ GE193.out | refine below_set ?_ GE194.out) | exact HB.out)) hb); clear BK193; clear BK194; clear HB; have BK193 := n0_; have BK194 := n1_; have HB := n2_; clear n0_ n1_ n2_; (try clear hb); (try clear hb2); (try clear hk); (try clear hi); have hcz15_0 : w14.cell? ⟨gb194, 0, none⟩ = some (.int .u32 a1_0) := (blk_cell BK194.out 0).trans rfl; have hcz15_1 : w14.cell? ⟨gb194, 1, none⟩ = some (.int .u32 a1_1) := (blk_cell BK194.out 1).trans rfl; have hcz15_2 : w14.cell? ⟨gb194, 2, none⟩ = some (.int .i64 a1_2) := (blk_cell BK194.out 2).trans rfl; have hcz15_3 : w14.cell? ⟨gb194, 3, none⟩ = some (.int .i64 a1_3) := (blk_cell BK194.out 3).trans rfl; have hcz15_4 : w14.cell? ⟨gb194, 4, none⟩ = some (.int .i64 a1_4) := (blk_cell BK194.out 4).trans rfl; have hfz15_0 := blk_frozen BK194.out 0; have hfz15_1 := blk_frozen BK194.out 1; have hfz15_2 := blk_frozen BK194.out 2; have hfz15_3 := blk_frozen BK194.out 3; have hfz15_4 := blk_frozen BK194.out 4) | (go_at_call 15; (with_reducible refine (stolonref10_Right.calls k a1_0 a1_1 a1_2 a1_3 a1_4 t197 _ A11.out).mono ?_); rintro e w16 ⟨rfl, hb⟩; have n0_ := Aside0.mk (blk_below (g := gb193) (o := .cells #[.int .i64 a0_0, .int .i64 a0_1, .int .i64 a0_2, .int .i64 a0_3] 23 (0, 0)) (by (with_reducible repeat (first | refine blk_drewN ?_ _ | refine blk_drew ?_ | refine blk_alloc ?_ _)); exact BK193.out) hb); have n1_ := Aside0.mk (blk_below (g := gb194) (o := .cells #[.int .u32 a1_0, .int .u32 a1_1, .int .i64 a1_2, .int .i64 a1_3, .int .i64 a1_4] 27 (0, 0)) (by (with_reducible repeat (first | refine blk_drewN ?_ _ | refine blk_drew ?_ | refine blk_alloc ?_ _)); exact BK194.out) hb); have n2_ := Aside0.mk (below_step (by repeat (first | (with_reducible first | exact HB.out | apply below_alloc | apply pw_below_drewN | apply below_drew1 | refine below_set ?_ GE193.out | refine below_set ?_ GE194.out) | exact HB.out)) hb); clear BK193; clear BK194; clear HB; have BK193 := n0_; have BK194 := n1_; have HB := n2_; clear n0_ n1_ n2_; (try clear hb); (try clear hb2); (try clear hk); (try clear hi)))
      go_meet
      case rel => exact ⟨_, (!t197), (by first | rfl | (simp; done) | (simp [*]; done)), H', ⟨by first | omega | exact Nat.le_refl _⟩, ⟨by (with_reducible repeat (first | refine blk_drewN ?_ _ | refine blk_drew ?_ | refine blk_alloc ?_ _)); exact BK193.out⟩, ⟨by (with_reducible repeat (first | refine blk_drewN ?_ _ | refine blk_drew ?_ | refine blk_alloc ?_ _)); exact BK194.out⟩, ⟨by repeat (first | (with_reducible first | exact HB.out | apply below_alloc | apply pw_below_drewN | apply below_drew1 | refine below_set ?_ GE193.out | refine below_set ?_ GE194.out) | exact HB.out)⟩⟩
    · replace c10 := Bool.eq_false_iff.mpr c10
      subst c10
      have H1 : (stolonlaw10_QuerierStays.j0 k a2 t195 true a0_0 a0_1 a0_2 a0_3 a1_0 a1_1 a1_2 a1_3 a1_4) = some r := by rw [if_neg (show ¬ (false = true) by decide)] at H; exact H
      clear H
      have H := H1
      clear H1
      have H' := Aside0.mk H
      clear H
      have hnb17 := NB193_194.out
      have hnc17 := NB194_193.out
      have hcz18_0 : w8.cell? ⟨gb193, 0, none⟩ = some (.int .i64 a0_0) := (blk_cell BK193.out 0).trans rfl
      have hcz18_1 : w8.cell? ⟨gb193, 1, none⟩ = some (.int .i64 a0_1) := (blk_cell BK193.out 1).trans rfl
      have hcz18_2 : w8.cell? ⟨gb193, 2, none⟩ = some (.int .i64 a0_2) := (blk_cell BK193.out 2).trans rfl
      have hcz18_3 : w8.cell? ⟨gb193, 3, none⟩ = some (.int .i64 a0_3) := (blk_cell BK193.out 3).trans rfl
      have hfz18_0 := blk_frozen BK193.out 0
      have hfz18_1 := blk_frozen BK193.out 1
      have hfz18_2 := blk_frozen BK193.out 2
      have hfz18_3 := blk_frozen BK193.out 3
      go_wp2_with (first | ((with_reducible refine gate_callee (f := 13) rfl ?_); refine goesL_ (some 13) rfl rfl Try.func13 (by kernel_rfl) rfl #[.agg #[.int .i64 a0_0, .int .i64 a0_1, .int .i64 a0_2, .int .i64 a0_3]] rfl (by (try simp only [List.map_toArray, List.map_cons, List.map_nil]); first | done | rfl | (simp only [List.length_drop, List.length_take]; rfl)) ?_; (with_reducible refine (stolonref10_May.calls a0_0 a0_1 a0_2 a0_3 false _ A9.out).mono ?_); rintro e w19 ⟨rfl, hb⟩; refine ⟨_, rfl, ?_⟩; have n0_ := Aside0.mk (blk_below (g := gb193) (o := .cells #[.int .i64 a0_0, .int .i64 a0_1, .int .i64 a0_2, .int .i64 a0_3] 23 (0, 0)) (by (with_reducible repeat (first | refine blk_drewN ?_ _ | refine blk_drew ?_ | refine blk_alloc ?_ _)); exact BK193.out) hb); have n1_ := Aside0.mk (blk_below (g := gb194) (o := .cells #[.int .u32 a1_0, .int .u32 a1_1, .int .i64 a1_2, .int .i64 a1_3, .int .i64 a1_4] 27 (0, 0)) (by (with_reducible repeat (first | refine blk_drewN ?_ _ | refine blk_drew ?_ | refine blk_alloc ?_ _)); exact BK194.out) hb); have n2_ := Aside0.mk (below_step (by repeat (first | (with_reducible first | exact HB.out | apply below_alloc | apply pw_below_drewN | apply below_drew1 | refine below_set ?_ GE193.out | refine below_set ?_ GE194.out) | exact HB.out)) hb); clear BK193; clear BK194; clear HB; have BK193 := n0_; have BK194 := n1_; have HB := n2_; clear n0_ n1_ n2_; (try clear hb); (try clear hb2); (try clear hk); (try clear hi)))
      go_meet
      case rel => exact ⟨_, (true), (by first | rfl | (simp; done) | (simp [*]; done)), H', ⟨by first | omega | exact Nat.le_refl _⟩, ⟨by (with_reducible repeat (first | refine blk_drewN ?_ _ | refine blk_drew ?_ | refine blk_alloc ?_ _)); exact BK193.out⟩, ⟨by (with_reducible repeat (first | refine blk_drewN ?_ _ | refine blk_drew ?_ | refine blk_alloc ?_ _)); exact BK194.out⟩, ⟨by repeat (first | (with_reducible first | exact HB.out | apply below_alloc | apply pw_below_drewN | apply below_drew1 | refine below_set ?_ GE193.out | refine below_set ?_ GE194.out) | exact HB.out)⟩⟩
  case rest =>
    clear HC5
    try clear c1
    try clear p2
    try clear c4
    try clear c9
    try clear c10
    try clear c12
    try clear c13
    try clear c17
    try clear hcz13_0
    try clear hcz13_1
    try clear hcz13_2
    try clear hcz13_3
    try clear hcz15_0
    try clear hcz15_1
    try clear hcz15_2
    try clear hcz15_3
    try clear hcz15_4
    try clear hcz18_0
    try clear hcz18_1
    try clear hcz18_2
    try clear hcz18_3
    try clear hfz13_0
    try clear hfz13_1
    try clear hfz13_2
    try clear hfz13_3
    try clear hfz15_0
    try clear hfz15_1
    try clear hfz15_2
    try clear hfz15_3
    try clear hfz15_4
    try clear hfz18_0
    try clear hfz18_1
    try clear hfz18_2
    try clear hfz18_3
    obtain ⟨kq, x19_4, rfl, HA, HJ4, BK193, BK194, HB⟩ := hcut
    cases kq with
    | zero => exact absurd HA.out (by simp [stolonlaw10_QuerierStays.j0])
    | succ kj4 =>
      have H := HA.out
      clear HA
      simp only [stolonlaw10_QuerierStays.j0] at H
      by_cases c20 : x19_4 = true
      · subst c20
        have H1 : (some t195) = some r := by rw [if_pos rfl] at H; exact H
        clear H
        have H := H1
        clear H1
        obtain rfl := Option.some.inj H
        go_wp2
        go_ret
        exact ⟨by first | rfl | (simp [errW_none, errW_some] <;> rfl) | (simp [*, errW_none, errW_some] <;> rfl), by repeat (first | (with_reducible first | exact HB.out | apply below_alloc | apply pw_below_drewN | apply below_drew1 | refine below_set ?_ GE193.out | refine below_set ?_ GE194.out) | exact HB.out)⟩
      · replace c20 := Bool.eq_false_iff.mpr c20
        subst c20
        have H1 : ((querier_Hear.f a0_0 a0_1 a0_2 a0_3 a1_0 a1_1 a1_2 a1_3 a1_4 a2).bind fun bt198 => ((querier_Tick.f a0_0 a0_1 a0_2 a0_3 a1_0 a1_1 a1_2 a1_3 a1_4).bind fun bt204 => ((stolonref10_Right.f kj4 bt198.1 bt198.2.1 bt198.2.2.1 bt198.2.2.2.1 bt198.2.2.2.2).bind fun t211 => (if t211 = true then ((stolonref10_Right.f kj4 bt204.1 bt204.2.1 bt204.2.2.1 bt204.2.2.2.1 bt204.2.2.2.2.1).bind fun t212 => (if t212 = true then ((querier_Hear.f a0_0 a0_1 a0_2 a0_3 bt198.1 bt198.2.1 bt198.2.2.1 bt198.2.2.2.1 bt198.2.2.2.2 a2).bind fun bt213 => (stolonlaw10_QuerierStays.j1 kj4 a2 t195 (!(bt213.1 == bt198.1) || (!(bt213.2.1 == bt198.2.1) || (!(bt213.2.2.1 == bt198.2.2.1) || (!(bt213.2.2.2.1 == bt198.2.2.2.1) || (!(bt213.2.2.2.2 == bt198.2.2.2.2)))))) a1_0 a1_1 a1_2 a1_3 a1_4 bt198.1 bt198.2.1 bt198.2.2.1 bt198.2.2.2.1 bt198.2.2.2.2)) else (stolonlaw10_QuerierStays.j1 kj4 a2 t195 true a1_0 a1_1 a1_2 a1_3 a1_4 bt198.1 bt198.2.1 bt198.2.2.1 bt198.2.2.2.1 bt198.2.2.2.2))) else (stolonlaw10_QuerierStays.j1 kj4 a2 t195 true a1_0 a1_1 a1_2 a1_3 a1_4 bt198.1 bt198.2.1 bt198.2.2.1 bt198.2.2.2.1 bt198.2.2.2.2))))) = some r := by rw [if_neg (show ¬ (false = true) by decide)] at H; exact H
        clear H
        have H := H1
        clear H1
        replace H := Option.bind_eq_some_iff.mp H
        obtain ⟨⟨t198, t199, t200, t201, t202⟩, A210, H⟩ := H
        replace H : ((querier_Tick.f a0_0 a0_1 a0_2 a0_3 a1_0 a1_1 a1_2 a1_3 a1_4).bind fun bt204 => ((stolonref10_Right.f kj4 t198 t199 t200 t201 t202).bind fun t211 => (if t211 = true then ((stolonref10_Right.f kj4 bt204.1 bt204.2.1 bt204.2.2.1 bt204.2.2.2.1 bt204.2.2.2.2.1).bind fun t212 => (if t212 = true then ((querier_Hear.f a0_0 a0_1 a0_2 a0_3 t198 t199 t200 t201 t202 a2).bind fun bt213 => (stolonlaw10_QuerierStays.j1 kj4 a2 t195 (!(bt213.1 == t198) || (!(bt213.2.1 == t199) || (!(bt213.2.2.1 == t200) || (!(bt213.2.2.2.1 == t201) || (!(bt213.2.2.2.2 == t202)))))) a1_0 a1_1 a1_2 a1_3 a1_4 t198 t199 t200 t201 t202)) else (stolonlaw10_QuerierStays.j1 kj4 a2 t195 true a1_0 a1_1 a1_2 a1_3 a1_4 t198 t199 t200 t201 t202))) else (stolonlaw10_QuerierStays.j1 kj4 a2 t195 true a1_0 a1_1 a1_2 a1_3 a1_4 t198 t199 t200 t201 t202)))) = some r := H
        have A21 := Aside0.mk A210
        clear A210
        replace H := Option.bind_eq_some_iff.mp H
        obtain ⟨⟨t204, t205, t206, t207, t208, t209⟩, A220, H⟩ := H
        replace H : ((stolonref10_Right.f kj4 t198 t199 t200 t201 t202).bind fun t211 => (if t211 = true then ((stolonref10_Right.f kj4 t204 t205 t206 t207 t208).bind fun t212 => (if t212 = true then ((querier_Hear.f a0_0 a0_1 a0_2 a0_3 t198 t199 t200 t201 t202 a2).bind fun bt213 => (stolonlaw10_QuerierStays.j1 kj4 a2 t195 (!(bt213.1 == t198) || (!(bt213.2.1 == t199) || (!(bt213.2.2.1 == t200) || (!(bt213.2.2.2.1 == t201) || (!(bt213.2.2.2.2 == t202)))))) a1_0 a1_1 a1_2 a1_3 a1_4 t198 t199 t200 t201 t202)) else (stolonlaw10_QuerierStays.j1 kj4 a2 t195 true a1_0 a1_1 a1_2 a1_3 a1_4 t198 t199 t200 t201 t202))) else (stolonlaw10_QuerierStays.j1 kj4 a2 t195 true a1_0 a1_1 a1_2 a1_3 a1_4 t198 t199 t200 t201 t202))) = some r := H
        have A22 := Aside0.mk A220
        clear A220
        have HC23 := Aside0.mk H
        clear H
        have hnb24 := NB193_194.out
        have hnc24 := NB194_193.out
        have hcz25_0 : wc.cell? ⟨gb193, 0, none⟩ = some (.int .i64 a0_0) := (blk_cell BK193.out 0).trans rfl
        have hcz25_1 : wc.cell? ⟨gb193, 1, none⟩ = some (.int .i64 a0_1) := (blk_cell BK193.out 1).trans rfl
        have hcz25_2 : wc.cell? ⟨gb193, 2, none⟩ = some (.int .i64 a0_2) := (blk_cell BK193.out 2).trans rfl
        have hcz25_3 : wc.cell? ⟨gb193, 3, none⟩ = some (.int .i64 a0_3) := (blk_cell BK193.out 3).trans rfl
        have hfz25_0 := blk_frozen BK193.out 0
        have hfz25_1 := blk_frozen BK193.out 1
        have hfz25_2 := blk_frozen BK193.out 2
        have hfz25_3 := blk_frozen BK193.out 3
        have hcz26_0 : wc.cell? ⟨gb194, 0, none⟩ = some (.int .u32 a1_0) := (blk_cell BK194.out 0).trans rfl
        have hcz26_1 : wc.cell? ⟨gb194, 1, none⟩ = some (.int .u32 a1_1) := (blk_cell BK194.out 1).trans rfl
        have hcz26_2 : wc.cell? ⟨gb194, 2, none⟩ = some (.int .i64 a1_2) := (blk_cell BK194.out 2).trans rfl
        have hcz26_3 : wc.cell? ⟨gb194, 3, none⟩ = some (.int .i64 a1_3) := (blk_cell BK194.out 3).trans rfl
        have hcz26_4 : wc.cell? ⟨gb194, 4, none⟩ = some (.int .i64 a1_4) := (blk_cell BK194.out 4).trans rfl
        have hfz26_0 := blk_frozen BK194.out 0
        have hfz26_1 := blk_frozen BK194.out 1
        have hfz26_2 := blk_frozen BK194.out 2
        have hfz26_3 := blk_frozen BK194.out 3
        have hfz26_4 := blk_frozen BK194.out 4
        go_upto_region 6 with (first | ((with_reducible refine gate_callee (f := 19) rfl ?_); refine goesL_ (some 24) rfl rfl Try.func19 (by kernel_rfl) rfl #[.agg #[.int .i64 a0_0, .int .i64 a0_1, .int .i64 a0_2, .int .i64 a0_3], .agg #[.int .u32 a1_0, .int .u32 a1_1, .int .i64 a1_2, .int .i64 a1_3, .int .i64 a1_4], .int .u32 a2] rfl (by (try simp only [List.map_toArray, List.map_cons, List.map_nil]); first | done | rfl | (simp only [List.length_drop, List.length_take]; rfl)) ?_; (with_reducible refine (querier_Hear.calls a0_0 a0_1 a0_2 a0_3 a1_0 a1_1 a1_2 a1_3 a1_4 a2 t198 t199 t200 t201 t202 _ A21.out).mono ?_); rintro e w27 ⟨rfl, hb⟩; refine ⟨_, rfl, ?_⟩; have n0_ := Aside0.mk (blk_below (g := gb193) (o := .cells #[.int .i64 a0_0, .int .i64 a0_1, .int .i64 a0_2, .int .i64 a0_3] 23 (0, 0)) (by (with_reducible repeat (first | refine blk_drewN ?_ _ | refine blk_drew ?_ | refine blk_alloc ?_ _)); exact BK193.out) hb); have n1_ := Aside0.mk (blk_below (g := gb194) (o := .cells #[.int .u32 a1_0, .int .u32 a1_1, .int .i64 a1_2, .int .i64 a1_3, .int .i64 a1_4] 27 (0, 0)) (by (with_reducible repeat (first | refine blk_drewN ?_ _ | refine blk_drew ?_ | refine blk_alloc ?_ _)); exact BK194.out) hb); have n2_ := Aside0.mk (below_step (by repeat (first | (with_reducible first | exact HB.out | apply below_alloc | apply pw_below_drewN | apply below_drew1 | refine below_set ?_ GE193.out | refine below_set ?_ GE194.out) | exact HB.out)) hb); clear BK193; clear BK194; clear HB; have BK193 := n0_; have BK194 := n1_; have HB := n2_; clear n0_ n1_ n2_; (try clear hb); (try clear hb2); (try clear hk); (try clear hi)) | ((with_reducible refine gate_dst (N := 8) rfl ?_); refine box_event ?hg (N := 8) ?hd (cs := #[.int .u32 0, .int .u32 0, .int .i64 0, .int .i64 0, .int .i64 0]) (t := 27) ?hr ?_; (case hd => rfl); (case hg => rfl); (case hr => first | (go_simp; done) | (go_simp; rfl)); intro gb203 hg w28 hbox hb; have n0_ := Aside0.mk (blk_below (g := gb193) (o := .cells #[.int .i64 a0_0, .int .i64 a0_1, .int .i64 a0_2, .int .i64 a0_3] 23 (0, 0)) (by (with_reducible repeat (first | refine blk_drewN ?_ _ | refine blk_drew ?_ | refine blk_alloc ?_ _)); exact BK193.out) hb); have n1_ := Aside0.mk (blk_below (g := gb194) (o := .cells #[.int .u32 a1_0, .int .u32 a1_1, .int .i64 a1_2, .int .i64 a1_3, .int .i64 a1_4] 27 (0, 0)) (by (with_reducible repeat (first | refine blk_drewN ?_ _ | refine blk_drew ?_ | refine blk_alloc ?_ _)); exact BK194.out) hb); have n2_ := Aside0.mk (below_step (by repeat (first | (with_reducible first | exact HB.out | apply below_alloc | apply pw_below_drewN | apply below_drew1 | refine below_set ?_ GE193.out | refine below_set ?_ GE194.out) | exact HB.out)) hb); have n3_ := Aside0.mk (hbox); have n4_ := Aside0.mk ((by rw [hg]; exact (below_size (by repeat (first | (with_reducible first | exact HB.out | apply below_alloc | apply pw_below_drewN | apply below_drew1 | refine below_set ?_ GE193.out | refine below_set ?_ GE194.out) | exact HB.out))) : w.heap.size ≤ gb203)); have n5_ := Aside0.mk ((by rw [hg]; exact (below_size (by repeat (first | (with_reducible first | exact HB.out | apply below_alloc | apply pw_below_drewN | apply below_drew1 | refine below_set ?_ GE193.out | refine below_set ?_ GE194.out) | exact HB.out))) : w.heap.size ≤ gb203)); have n6_ := Aside0.mk ((by rw [hg]; exact Nat.ne_of_lt (blk_lt (g := gb193) (o := .cells #[.int .i64 a0_0, .int .i64 a0_1, .int .i64 a0_2, .int .i64 a0_3] 23 (0, 0)) (by (with_reducible repeat (first | refine blk_drewN ?_ _ | refine blk_drew ?_ | refine blk_alloc ?_ _)); exact BK193.out)) : gb193 ≠ gb203)); have n7_ := Aside0.mk ((by rw [hg]; exact Nat.ne_of_gt (blk_lt (g := gb193) (o := .cells #[.int .i64 a0_0, .int .i64 a0_1, .int .i64 a0_2, .int .i64 a0_3] 23 (0, 0)) (by (with_reducible repeat (first | refine blk_drewN ?_ _ | refine blk_drew ?_ | refine blk_alloc ?_ _)); exact BK193.out)) : gb203 ≠ gb193)); have n8_ := Aside0.mk ((by rw [hg]; exact Nat.ne_of_lt (blk_lt (g := gb194) (o := .cells #[.int .u32 a1_0, .int .u32 a1_1, .int .i64 a1_2, .int .i64 a1_3, .int .i64 a1_4] 27 (0, 0)) (by (with_reducible repeat (first | refine blk_drewN ?_ _ | refine blk_drew ?_ | refine blk_alloc ?_ _)); exact BK194.out)) : gb194 ≠ gb203)); have n9_ := Aside0.mk ((by rw [hg]; exact Nat.ne_of_gt (blk_lt (g := gb194) (o := .cells #[.int .u32 a1_0, .int .u32 a1_1, .int .i64 a1_2, .int .i64 a1_3, .int .i64 a1_4] 27 (0, 0)) (by (with_reducible repeat (first | refine blk_drewN ?_ _ | refine blk_drew ?_ | refine blk_alloc ?_ _)); exact BK194.out)) : gb203 ≠ gb194)); clear BK193; clear BK194; clear HB; have BK193 := n0_; have BK194 := n1_; have HB := n2_; have BK203 := n3_; have GW203 := n4_; have GE203 := n5_; have NB193_203 := n6_; have NB203_193 := n7_; have NB194_203 := n8_; have NB203_194 := n9_; clear n0_ n1_ n2_ n3_ n4_ n5_ n6_ n7_ n8_ n9_; clear hb hbox hg; have hnb29 := NB203_193.out; have hnc29 := NB193_203.out; have hnb30 := NB203_194.out; have hnc30 := NB194_203.out; have hcz31_0 : w28.cell? ⟨gb203, 0, none⟩ = some (.int .u32 0) := (blk_cell BK203.out 0).trans rfl; have hcz31_1 : w28.cell? ⟨gb203, 1, none⟩ = some (.int .u32 0) := (blk_cell BK203.out 1).trans rfl; have hcz31_2 : w28.cell? ⟨gb203, 2, none⟩ = some (.int .i64 0) := (blk_cell BK203.out 2).trans rfl; have hcz31_3 : w28.cell? ⟨gb203, 3, none⟩ = some (.int .i64 0) := (blk_cell BK203.out 3).trans rfl; have hcz31_4 : w28.cell? ⟨gb203, 4, none⟩ = some (.int .i64 0) := (blk_cell BK203.out 4).trans rfl; have hfz31_0 := blk_frozen BK203.out 0; have hfz31_1 := blk_frozen BK203.out 1; have hfz31_2 := blk_frozen BK203.out 2; have hfz31_3 := blk_frozen BK203.out 3; have hfz31_4 := blk_frozen BK203.out 4; have hcz32_0 : w28.cell? ⟨gb193, 0, none⟩ = some (.int .i64 a0_0) := (blk_cell BK193.out 0).trans rfl; have hcz32_1 : w28.cell? ⟨gb193, 1, none⟩ = some (.int .i64 a0_1) := (blk_cell BK193.out 1).trans rfl; have hcz32_2 : w28.cell? ⟨gb193, 2, none⟩ = some (.int .i64 a0_2) := (blk_cell BK193.out 2).trans rfl; have hcz32_3 : w28.cell? ⟨gb193, 3, none⟩ = some (.int .i64 a0_3) := (blk_cell BK193.out 3).trans rfl; have hfz32_0 := blk_frozen BK193.out 0; have hfz32_1 := blk_frozen BK193.out 1; have hfz32_2 := blk_frozen BK193.out 2; have hfz32_3 := blk_frozen BK193.out 3; have hcz33_0 : w28.cell? ⟨gb194, 0, none⟩ = some (.int .u32 a1_0) := (blk_cell BK194.out 0).trans rfl; have hcz33_1 : w28.cell? ⟨gb194, 1, none⟩ = some (.int .u32 a1_1) := (blk_cell BK194.out 1).trans rfl; have hcz33_2 : w28.cell? ⟨gb194, 2, none⟩ = some (.int .i64 a1_2) := (blk_cell BK194.out 2).trans rfl; have hcz33_3 : w28.cell? ⟨gb194, 3, none⟩ = some (.int .i64 a1_3) := (blk_cell BK194.out 3).trans rfl; have hcz33_4 : w28.cell? ⟨gb194, 4, none⟩ = some (.int .i64 a1_4) := (blk_cell BK194.out 4).trans rfl; have hfz33_0 := blk_frozen BK194.out 0; have hfz33_1 := blk_frozen BK194.out 1; have hfz33_2 := blk_frozen BK194.out 2; have hfz33_3 := blk_frozen BK194.out 3; have hfz33_4 := blk_frozen BK194.out 4) | ((with_reducible refine gate_callee (f := 17) rfl ?_); refine goesL_ (some 28) rfl rfl Try.func17 (by kernel_rfl) rfl #[.agg #[.int .i64 a0_0, .int .i64 a0_1, .int .i64 a0_2, .int .i64 a0_3], .agg #[.int .u32 a1_0, .int .u32 a1_1, .int .i64 a1_2, .int .i64 a1_3, .int .i64 a1_4]] rfl (by (try simp only [List.map_toArray, List.map_cons, List.map_nil]); first | done | rfl | (simp only [List.length_drop, List.length_take]; rfl)) ?_; (with_reducible refine (querier_Tick.calls a0_0 a0_1 a0_2 a0_3 a1_0 a1_1 a1_2 a1_3 a1_4 t204 t205 t206 t207 t208 t209 _ A22.out).mono ?_); rintro e w34 ⟨rfl, hb⟩; refine ⟨_, rfl, ?_⟩; have n0_ := Aside0.mk (blk_below (g := gb193) (o := .cells #[.int .i64 a0_0, .int .i64 a0_1, .int .i64 a0_2, .int .i64 a0_3] 23 (0, 0)) (by (with_reducible repeat (first | refine blk_drewN ?_ _ | refine blk_drew ?_ | refine blk_alloc ?_ _)); refine blk_far ?_ NB193_203.out _; (with_reducible repeat (first | refine blk_drewN ?_ _ | refine blk_drew ?_ | refine blk_alloc ?_ _)); refine blk_far ?_ NB193_203.out _; (with_reducible repeat (first | refine blk_drewN ?_ _ | refine blk_drew ?_ | refine blk_alloc ?_ _)); refine blk_far ?_ NB193_203.out _; (with_reducible repeat (first | refine blk_drewN ?_ _ | refine blk_drew ?_ | refine blk_alloc ?_ _)); refine blk_far ?_ NB193_203.out _; (with_reducible repeat (first | refine blk_drewN ?_ _ | refine blk_drew ?_ | refine blk_alloc ?_ _)); refine blk_far ?_ NB193_203.out _; (with_reducible repeat (first | refine blk_drewN ?_ _ | refine blk_drew ?_ | refine blk_alloc ?_ _)); exact BK193.out) hb); have n1_ := Aside0.mk (blk_below (g := gb194) (o := .cells #[.int .u32 a1_0, .int .u32 a1_1, .int .i64 a1_2, .int .i64 a1_3, .int .i64 a1_4] 27 (0, 0)) (by (with_reducible repeat (first | refine blk_drewN ?_ _ | refine blk_drew ?_ | refine blk_alloc ?_ _)); refine blk_far ?_ NB194_203.out _; (with_reducible repeat (first | refine blk_drewN ?_ _ | refine blk_drew ?_ | refine blk_alloc ?_ _)); refine blk_far ?_ NB194_203.out _; (with_reducible repeat (first | refine blk_drewN ?_ _ | refine blk_drew ?_ | refine blk_alloc ?_ _)); refine blk_far ?_ NB194_203.out _; (with_reducible repeat (first | refine blk_drewN ?_ _ | refine blk_drew ?_ | refine blk_alloc ?_ _)); refine blk_far ?_ NB194_203.out _; (with_reducible repeat (first | refine blk_drewN ?_ _ | refine blk_drew ?_ | refine blk_alloc ?_ _)); refine blk_far ?_ NB194_203.out _; (with_reducible repeat (first | refine blk_drewN ?_ _ | refine blk_drew ?_ | refine blk_alloc ?_ _)); exact BK194.out) hb); have n2_ := Aside0.mk (blk_below (g := gb203) (o := .cells #[.int .u32 t198, .int .u32 t199, .int .i64 t200, .int .i64 t201, .int .i64 t202] 27 (0, 0)) (by (with_reducible repeat (first | refine blk_drewN ?_ _ | refine blk_drew ?_ | refine blk_alloc ?_ _)); refine blk_put (cs := #[.int .u32 t198, .int .u32 t199, .int .i64 t200, .int .i64 t201, .int .i64 0]) ?_ 4 _ rfl; (with_reducible repeat (first | refine blk_drewN ?_ _ | refine blk_drew ?_ | refine blk_alloc ?_ _)); refine blk_put (cs := #[.int .u32 t198, .int .u32 t199, .int .i64 t200, .int .i64 0, .int .i64 0]) ?_ 3 _ rfl; (with_reducible repeat (first | refine blk_drewN ?_ _ | refine blk_drew ?_ | refine blk_alloc ?_ _)); refine blk_put (cs := #[.int .u32 t198, .int .u32 t199, .int .i64 0, .int .i64 0, .int .i64 0]) ?_ 2 _ rfl; (with_reducible repeat (first | refine blk_drewN ?_ _ | refine blk_drew ?_ | refine blk_alloc ?_ _)); refine blk_put (cs := #[.int .u32 t198, .int .u32 0, .int .i64 0, .int .i64 0, .int .i64 0]) ?_ 1 _ rfl; (with_reducible repeat (first | refine blk_drewN ?_ _ | refine blk_drew ?_ | refine blk_alloc ?_ _)); refine blk_put (cs := #[.int .u32 0, .int .u32 0, .int .i64 0, .int .i64 0, .int .i64 0]) ?_ 0 _ rfl; (with_reducible repeat (first | refine blk_drewN ?_ _ | refine blk_drew ?_ | refine blk_alloc ?_ _)); exact BK203.out) hb); have n3_ := Aside0.mk (below_step (by repeat (first | (with_reducible first | exact HB.out | apply below_alloc | apply pw_below_drewN | apply below_drew1 | refine below_set ?_ GE193.out | refine below_set ?_ GE194.out | refine below_set ?_ GE203.out) | exact HB.out)) hb); clear BK193; clear BK194; clear BK203; clear HB; have BK193 := n0_; have BK194 := n1_; have BK203 := n2_; have HB := n3_; clear n0_ n1_ n2_ n3_; (try clear hb); (try clear hb2); (try clear hk); (try clear hi)) | ((with_reducible refine gate_dst (N := 9) rfl ?_); refine box_event ?hg (N := 9) ?hd (cs := #[.int .u32 0, .int .u32 0, .int .i64 0, .int .i64 0, .int .i64 0]) (t := 27) ?hr ?_; (case hd => rfl); (case hg => rfl); (case hr => first | (go_simp; done) | (go_simp; rfl)); intro gb210 hg w35 hbox hb; have n0_ := Aside0.mk (blk_below (g := gb193) (o := .cells #[.int .i64 a0_0, .int .i64 a0_1, .int .i64 a0_2, .int .i64 a0_3] 23 (0, 0)) (by (with_reducible repeat (first | refine blk_drewN ?_ _ | refine blk_drew ?_ | refine blk_alloc ?_ _)); exact BK193.out) hb); have n1_ := Aside0.mk (blk_below (g := gb194) (o := .cells #[.int .u32 a1_0, .int .u32 a1_1, .int .i64 a1_2, .int .i64 a1_3, .int .i64 a1_4] 27 (0, 0)) (by (with_reducible repeat (first | refine blk_drewN ?_ _ | refine blk_drew ?_ | refine blk_alloc ?_ _)); exact BK194.out) hb); have n2_ := Aside0.mk (blk_below (g := gb203) (o := .cells #[.int .u32 t198, .int .u32 t199, .int .i64 t200, .int .i64 t201, .int .i64 t202] 27 (0, 0)) (by (with_reducible repeat (first | refine blk_drewN ?_ _ | refine blk_drew ?_ | refine blk_alloc ?_ _)); exact BK203.out) hb); have n3_ := Aside0.mk (below_step (by repeat (first | (with_reducible first | exact HB.out | apply below_alloc | apply pw_below_drewN | apply below_drew1 | refine below_set ?_ GE193.out | refine below_set ?_ GE194.out | refine below_set ?_ GE203.out) | exact HB.out)) hb); have n4_ := Aside0.mk (hbox); have n5_ := Aside0.mk ((by rw [hg]; exact (below_size (by repeat (first | (with_reducible first | exact HB.out | apply below_alloc | apply pw_below_drewN | apply below_drew1 | refine below_set ?_ GE193.out | refine below_set ?_ GE194.out | refine below_set ?_ GE203.out) | exact HB.out))) : w.heap.size ≤ gb210)); have n6_ := Aside0.mk ((by rw [hg]; exact (below_size (by repeat (first | (with_reducible first | exact HB.out | apply below_alloc | apply pw_below_drewN | apply below_drew1 | refine below_set ?_ GE193.out | refine below_set ?_ GE194.out | refine below_set ?_ GE203.out) | exact HB.out))) : w.heap.size ≤ gb210)); have n7_ := Aside0.mk ((by rw [hg]; exact Nat.ne_of_lt (blk_lt (g := gb193) (o := .cells #[.int .i64 a0_0, .int .i64 a0_1, .int .i64 a0_2, .int .i64 a0_3] 23 (0, 0)) (by (with_reducible repeat (first | refine blk_drewN ?_ _ | refine blk_drew ?_ | refine blk_alloc ?_ _)); exact BK193.out)) : gb193 ≠ gb210)); have n8_ := Aside0.mk ((by rw [hg]; exact Nat.ne_of_gt (blk_lt (g := gb193) (o := .cells #[.int .i64 a0_0, .int .i64 a0_1, .int .i64 a0_2, .int .i64 a0_3] 23 (0, 0)) (by (with_reducible repeat (first | refine blk_drewN ?_ _ | refine blk_drew ?_ | refine blk_alloc ?_ _)); exact BK193.out)) : gb210 ≠ gb193)); have n9_ := Aside0.mk ((by rw [hg]; exact Nat.ne_of_lt (blk_lt (g := gb194) (o := .cells #[.int .u32 a1_0, .int .u32 a1_1, .int .i64 a1_2, .int .i64 a1_3, .int .i64 a1_4] 27 (0, 0)) (by (with_reducible repeat (first | refine blk_drewN ?_ _ | refine blk_drew ?_ | refine blk_alloc ?_ _)); exact BK194.out)) : gb194 ≠ gb210)); have n10_ := Aside0.mk ((by rw [hg]; exact Nat.ne_of_gt (blk_lt (g := gb194) (o := .cells #[.int .u32 a1_0, .int .u32 a1_1, .int .i64 a1_2, .int .i64 a1_3, .int .i64 a1_4] 27 (0, 0)) (by (with_reducible repeat (first | refine blk_drewN ?_ _ | refine blk_drew ?_ | refine blk_alloc ?_ _)); exact BK194.out)) : gb210 ≠ gb194)); have n11_ := Aside0.mk ((by rw [hg]; exact Nat.ne_of_lt (blk_lt (g := gb203) (o := .cells #[.int .u32 t198, .int .u32 t199, .int .i64 t200, .int .i64 t201, .int .i64 t202] 27 (0, 0)) (by (with_reducible repeat (first | refine blk_drewN ?_ _ | refine blk_drew ?_ | refine blk_alloc ?_ _)); exact BK203.out)) : gb203 ≠ gb210)); have n12_ := Aside0.mk ((by rw [hg]; exact Nat.ne_of_gt (blk_lt (g := gb203) (o := .cells #[.int .u32 t198, .int .u32 t199, .int .i64 t200, .int .i64 t201, .int .i64 t202] 27 (0, 0)) (by (with_reducible repeat (first | refine blk_drewN ?_ _ | refine blk_drew ?_ | refine blk_alloc ?_ _)); exact BK203.out)) : gb210 ≠ gb203)); clear BK193; clear BK194; clear BK203; clear HB; have BK193 := n0_; have BK194 := n1_; have BK203 := n2_; have HB := n3_; have BK210 := n4_; have GW210 := n5_; have GE210 := n6_; have NB193_210 := n7_; have NB210_193 := n8_; have NB194_210 := n9_; have NB210_194 := n10_; have NB203_210 := n11_; have NB210_203 := n12_; clear n0_ n1_ n2_ n3_ n4_ n5_ n6_ n7_ n8_ n9_ n10_ n11_ n12_; clear hb hbox hg; have hnb36 := NB210_193.out; have hnc36 := NB193_210.out; have hnb37 := NB210_194.out; have hnc37 := NB194_210.out; have hnb38 := NB210_203.out; have hnc38 := NB203_210.out; have hcz39_0 : w35.cell? ⟨gb210, 0, none⟩ = some (.int .u32 0) := (blk_cell BK210.out 0).trans rfl; have hcz39_1 : w35.cell? ⟨gb210, 1, none⟩ = some (.int .u32 0) := (blk_cell BK210.out 1).trans rfl; have hcz39_2 : w35.cell? ⟨gb210, 2, none⟩ = some (.int .i64 0) := (blk_cell BK210.out 2).trans rfl; have hcz39_3 : w35.cell? ⟨gb210, 3, none⟩ = some (.int .i64 0) := (blk_cell BK210.out 3).trans rfl; have hcz39_4 : w35.cell? ⟨gb210, 4, none⟩ = some (.int .i64 0) := (blk_cell BK210.out 4).trans rfl; have hfz39_0 := blk_frozen BK210.out 0; have hfz39_1 := blk_frozen BK210.out 1; have hfz39_2 := blk_frozen BK210.out 2; have hfz39_3 := blk_frozen BK210.out 3; have hfz39_4 := blk_frozen BK210.out 4))
        (try simp only [Act.put, List.setIfInBounds_toArray, List.set_cons_zero, List.set_cons_succ])
        go_cut [46] (fun v46 wc => ∃ (kq : Nat) (x46_22 : Bool), v46 = .bool x46_22 ∧ Aside0 (stolonlaw10_QuerierStays.j1 kq a2 t195 x46_22 a1_0 a1_1 a1_2 a1_3 a1_4 t198 t199 t200 t201 t202 = some r) ∧ Aside0 (kq ≤ kj4) ∧ Aside0 (wc.heap[gb193]? = some (.cells #[.int .i64 a0_0, .int .i64 a0_1, .int .i64 a0_2, .int .i64 a0_3] 23 (0, 0))) ∧ Aside0 (wc.heap[gb194]? = some (.cells #[.int .u32 a1_0, .int .u32 a1_1, .int .i64 a1_2, .int .i64 a1_3, .int .i64 a1_4] 27 (0, 0))) ∧ Aside0 (wc.heap[gb203]? = some (.cells #[.int .u32 t198, .int .u32 t199, .int .i64 t200, .int .i64 t201, .int .i64 t202] 27 (0, 0))) ∧ Aside0 (wc.heap[gb210]? = some (.cells #[.int .u32 t204, .int .u32 t205, .int .i64 t206, .int .i64 t207, .int .i64 t208] 27 (0, 0))) ∧ Aside0 (Below w.heap.size w wc))
        case first =>
          have H := HC23.out
          clear HC23
          replace H := Option.bind_eq_some_iff.mp H
          obtain ⟨t211, A400, H⟩ := H
          replace H : (if t211 = true then ((stolonref10_Right.f kj4 t204 t205 t206 t207 t208).bind fun t212 => (if t212 = true then ((querier_Hear.f a0_0 a0_1 a0_2 a0_3 t198 t199 t200 t201 t202 a2).bind fun bt213 => (stolonlaw10_QuerierStays.j1 kj4 a2 t195 (!(bt213.1 == t198) || (!(bt213.2.1 == t199) || (!(bt213.2.2.1 == t200) || (!(bt213.2.2.2.1 == t201) || (!(bt213.2.2.2.2 == t202)))))) a1_0 a1_1 a1_2 a1_3 a1_4 t198 t199 t200 t201 t202)) else (stolonlaw10_QuerierStays.j1 kj4 a2 t195 true a1_0 a1_1 a1_2 a1_3 a1_4 t198 t199 t200 t201 t202))) else (stolonlaw10_QuerierStays.j1 kj4 a2 t195 true a1_0 a1_1 a1_2 a1_3 a1_4 t198 t199 t200 t201 t202)) = some r := H
          have A40 := Aside0.mk A400
          clear A400
          by_cases c41 : t211 = true
          · subst c41
            have H1 : ((stolonref10_Right.f kj4 t204 t205 t206 t207 t208).bind fun t212 => (if t212 = true then ((querier_Hear.f a0_0 a0_1 a0_2 a0_3 t198 t199 t200 t201 t202 a2).bind fun bt213 => (stolonlaw10_QuerierStays.j1 kj4 a2 t195 (!(bt213.1 == t198) || (!(bt213.2.1 == t199) || (!(bt213.2.2.1 == t200) || (!(bt213.2.2.2.1 == t201) || (!(bt213.2.2.2.2 == t202)))))) a1_0 a1_1 a1_2 a1_3 a1_4 t198 t199 t200 t201 t202)) else (stolonlaw10_QuerierStays.j1 kj4 a2 t195 true a1_0 a1_1 a1_2 a1_3 a1_4 t198 t199 t200 t201 t202))) = some r := by rw [if_pos rfl] at H; exact H
            clear H
            have H := H1
            clear H1
            replace H := Option.bind_eq_some_iff.mp H
            obtain ⟨t212, A420, H⟩ := H
            replace H : (if t212 = true then ((querier_Hear.f a0_0 a0_1 a0_2 a0_3 t198 t199 t200 t201 t202 a2).bind fun bt213 => (stolonlaw10_QuerierStays.j1 kj4 a2 t195 (!(bt213.1 == t198) || (!(bt213.2.1 == t199) || (!(bt213.2.2.1 == t200) || (!(bt213.2.2.2.1 == t201) || (!(bt213.2.2.2.2 == t202)))))) a1_0 a1_1 a1_2 a1_3 a1_4 t198 t199 t200 t201 t202)) else (stolonlaw10_QuerierStays.j1 kj4 a2 t195 true a1_0 a1_1 a1_2 a1_3 a1_4 t198 t199 t200 t201 t202)) = some r := H
            have A42 := Aside0.mk A420
            clear A420
            by_cases c43 : t212 = true
            · subst c43
              have H1 : ((querier_Hear.f a0_0 a0_1 a0_2 a0_3 t198 t199 t200 t201 t202 a2).bind fun bt213 => (stolonlaw10_QuerierStays.j1 kj4 a2 t195 (!(bt213.1 == t198) || (!(bt213.2.1 == t199) || (!(bt213.2.2.1 == t200) || (!(bt213.2.2.2.1 == t201) || (!(bt213.2.2.2.2 == t202)))))) a1_0 a1_1 a1_2 a1_3 a1_4 t198 t199 t200 t201 t202)) = some r := by rw [if_pos rfl] at H; exact H
              clear H
              have H := H1
              clear H1
              replace H := Option.bind_eq_some_iff.mp H
              obtain ⟨⟨t213, t214, t215, t216, t217⟩, A440, H⟩ := H
              replace H : (stolonlaw10_QuerierStays.j1 kj4 a2 t195 (!(t213 == t198) || (!(t214 == t199) || (!(t215 == t200) || (!(t216 == t201) || (!(t217 == t202)))))) a1_0 a1_1 a1_2 a1_3 a1_4 t198 t199 t200 t201 t202) = some r := H
              have A44 := Aside0.mk A440
              clear A440
              have H' := Aside0.mk H
              clear H
              try go_wp2
              have n0_ : Aside0 ((((((w35.setCell ⟨gb210, 0, none⟩ (.int .u32 t204)).setCell ⟨gb210, 1, none⟩ (.int .u32 t205)).setCell ⟨gb210, 2, none⟩ (.int .i64 t206)).setCell ⟨gb210, 3, none⟩ (.int .i64 t207)).setCell ⟨gb210, 4, none⟩ (.int .i64 t208)).heap[gb193]? = some (.cells #[.int .i64 a0_0, .int .i64 a0_1, .int .i64 a0_2, .int .i64 a0_3] 23 (0, 0))) := ⟨by (with_reducible repeat (first | refine blk_drewN ?_ _ | refine blk_drew ?_ | refine blk_alloc ?_ _)); refine blk_far ?_ NB193_210.out _; (with_reducible repeat (first | refine blk_drewN ?_ _ | refine blk_drew ?_ | refine blk_alloc ?_ _)); refine blk_far ?_ NB193_210.out _; (with_reducible repeat (first | refine blk_drewN ?_ _ | refine blk_drew ?_ | refine blk_alloc ?_ _)); refine blk_far ?_ NB193_210.out _; (with_reducible repeat (first | refine blk_drewN ?_ _ | refine blk_drew ?_ | refine blk_alloc ?_ _)); refine blk_far ?_ NB193_210.out _; (with_reducible repeat (first | refine blk_drewN ?_ _ | refine blk_drew ?_ | refine blk_alloc ?_ _)); refine blk_far ?_ NB193_210.out _; (with_reducible repeat (first | refine blk_drewN ?_ _ | refine blk_drew ?_ | refine blk_alloc ?_ _)); exact BK193.out⟩
              have n1_ : Aside0 ((((((w35.setCell ⟨gb210, 0, none⟩ (.int .u32 t204)).setCell ⟨gb210, 1, none⟩ (.int .u32 t205)).setCell ⟨gb210, 2, none⟩ (.int .i64 t206)).setCell ⟨gb210, 3, none⟩ (.int .i64 t207)).setCell ⟨gb210, 4, none⟩ (.int .i64 t208)).heap[gb194]? = some (.cells #[.int .u32 a1_0, .int .u32 a1_1, .int .i64 a1_2, .int .i64 a1_3, .int .i64 a1_4] 27 (0, 0))) := ⟨by (with_reducible repeat (first | refine blk_drewN ?_ _ | refine blk_drew ?_ | refine blk_alloc ?_ _)); refine blk_far ?_ NB194_210.out _; (with_reducible repeat (first | refine blk_drewN ?_ _ | refine blk_drew ?_ | refine blk_alloc ?_ _)); refine blk_far ?_ NB194_210.out _; (with_reducible repeat (first | refine blk_drewN ?_ _ | refine blk_drew ?_ | refine blk_alloc ?_ _)); refine blk_far ?_ NB194_210.out _; (with_reducible repeat (first | refine blk_drewN ?_ _ | refine blk_drew ?_ | refine blk_alloc ?_ _)); refine blk_far ?_ NB194_210.out _; (with_reducible repeat (first | refine blk_drewN ?_ _ | refine blk_drew ?_ | refine blk_alloc ?_ _)); refine blk_far ?_ NB194_210.out _; (with_reducible repeat (first | refine blk_drewN ?_ _ | refine blk_drew ?_ | refine blk_alloc ?_ _)); exact BK194.out⟩
              have n2_ : Aside0 ((((((w35.setCell ⟨gb210, 0, none⟩ (.int .u32 t204)).setCell ⟨gb210, 1, none⟩ (.int .u32 t205)).setCell ⟨gb210, 2, none⟩ (.int .i64 t206)).setCell ⟨gb210, 3, none⟩ (.int .i64 t207)).setCell ⟨gb210, 4, none⟩ (.int .i64 t208)).heap[gb203]? = some (.cells #[.int .u32 t198, .int .u32 t199, .int .i64 t200, .int .i64 t201, .int .i64 t202] 27 (0, 0))) := ⟨by (with_reducible repeat (first | refine blk_drewN ?_ _ | refine blk_drew ?_ | refine blk_alloc ?_ _)); refine blk_far ?_ NB203_210.out _; (with_reducible repeat (first | refine blk_drewN ?_ _ | refine blk_drew ?_ | refine blk_alloc ?_ _)); refine blk_far ?_ NB203_210.out _; (with_reducible repeat (first | refine blk_drewN ?_ _ | refine blk_drew ?_ | refine blk_alloc ?_ _)); refine blk_far ?_ NB203_210.out _; (with_reducible repeat (first | refine blk_drewN ?_ _ | refine blk_drew ?_ | refine blk_alloc ?_ _)); refine blk_far ?_ NB203_210.out _; (with_reducible repeat (first | refine blk_drewN ?_ _ | refine blk_drew ?_ | refine blk_alloc ?_ _)); refine blk_far ?_ NB203_210.out _; (with_reducible repeat (first | refine blk_drewN ?_ _ | refine blk_drew ?_ | refine blk_alloc ?_ _)); exact BK203.out⟩
              have n3_ : Aside0 ((((((w35.setCell ⟨gb210, 0, none⟩ (.int .u32 t204)).setCell ⟨gb210, 1, none⟩ (.int .u32 t205)).setCell ⟨gb210, 2, none⟩ (.int .i64 t206)).setCell ⟨gb210, 3, none⟩ (.int .i64 t207)).setCell ⟨gb210, 4, none⟩ (.int .i64 t208)).heap[gb210]? = some (.cells #[.int .u32 t204, .int .u32 t205, .int .i64 t206, .int .i64 t207, .int .i64 t208] 27 (0, 0))) := ⟨by (with_reducible repeat (first | refine blk_drewN ?_ _ | refine blk_drew ?_ | refine blk_alloc ?_ _)); refine blk_put (cs := #[.int .u32 t204, .int .u32 t205, .int .i64 t206, .int .i64 t207, .int .i64 0]) ?_ 4 _ rfl; (with_reducible repeat (first | refine blk_drewN ?_ _ | refine blk_drew ?_ | refine blk_alloc ?_ _)); refine blk_put (cs := #[.int .u32 t204, .int .u32 t205, .int .i64 t206, .int .i64 0, .int .i64 0]) ?_ 3 _ rfl; (with_reducible repeat (first | refine blk_drewN ?_ _ | refine blk_drew ?_ | refine blk_alloc ?_ _)); refine blk_put (cs := #[.int .u32 t204, .int .u32 t205, .int .i64 0, .int .i64 0, .int .i64 0]) ?_ 2 _ rfl; (with_reducible repeat (first | refine blk_drewN ?_ _ | refine blk_drew ?_ | refine blk_alloc ?_ _)); refine blk_put (cs := #[.int .u32 t204, .int .u32 0, .int .i64 0, .int .i64 0, .int .i64 0]) ?_ 1 _ rfl; (with_reducible repeat (first | refine blk_drewN ?_ _ | refine blk_drew ?_ | refine blk_alloc ?_ _)); refine blk_put (cs := #[.int .u32 0, .int .u32 0, .int .i64 0, .int .i64 0, .int .i64 0]) ?_ 0 _ rfl; (with_reducible repeat (first | refine blk_drewN ?_ _ | refine blk_drew ?_ | refine blk_alloc ?_ _)); exact BK210.out⟩
              have n4_ : Aside0 (Below w.heap.size w (((((w35.setCell ⟨gb210, 0, none⟩ (.int .u32 t204)).setCell ⟨gb210, 1, none⟩ (.int .u32 t205)).setCell ⟨gb210, 2, none⟩ (.int .i64 t206)).setCell ⟨gb210, 3, none⟩ (.int .i64 t207)).setCell ⟨gb210, 4, none⟩ (.int .i64 t208))) := ⟨by repeat (first | (with_reducible first | exact HB.out | apply below_alloc | apply pw_below_drewN | apply below_drew1 | refine below_set ?_ GE193.out | refine below_set ?_ GE194.out | refine below_set ?_ GE203.out | refine below_set ?_ GE210.out) | exact HB.out)⟩
              (try clear BK193)
              (try clear BK194)
              (try clear BK203)
              (try clear BK210)
              (try clear HB)
              generalize (((((w35.setCell ⟨gb210, 0, none⟩ (.int .u32 t204)).setCell ⟨gb210, 1, none⟩ (.int .u32 t205)).setCell ⟨gb210, 2, none⟩ (.int .i64 t206)).setCell ⟨gb210, 3, none⟩ (.int .i64 t207)).setCell ⟨gb210, 4, none⟩ (.int .i64 t208)) = w45 at n0_ n1_ n2_ n3_ n4_ ⊢
              have BK193 := n0_
              have BK194 := n1_
              have BK203 := n2_
              have BK210 := n3_
              have HB := n4_
              clear n0_ n1_ n2_ n3_ n4_
              have n0_ := Aside0.mk (blk_drew BK193.out)
              have n1_ := Aside0.mk (blk_drew BK194.out)
              have n2_ := Aside0.mk (blk_drew BK203.out)
              have n3_ := Aside0.mk (blk_drew BK210.out)
              have n4_ := Aside0.mk (below_drew1 HB.out)
              clear BK193
              clear BK194
              clear BK203
              clear BK210
              clear HB
              have BK193 := n0_
              have BK194 := n1_
              have BK203 := n2_
              have BK210 := n3_
              have HB := n4_
              clear n0_ n1_ n2_ n3_ n4_
              refine start_ (n := 16) (S := fun w' => w'.cell? ⟨gb203, 0, none⟩ = some (.int .u32 t198) ∧ w'.cell? ⟨gb203, 1, none⟩ = some (.int .u32 t199) ∧ w'.cell? ⟨gb203, 2, none⟩ = some (.int .i64 t200) ∧ w'.cell? ⟨gb203, 3, none⟩ = some (.int .i64 t201) ∧ w'.cell? ⟨gb203, 4, none⟩ = some (.int .i64 t202) ∧ w'.cell? ⟨gb210, 0, none⟩ = some (.int .u32 t204) ∧ w'.cell? ⟨gb210, 1, none⟩ = some (.int .u32 t205) ∧ w'.cell? ⟨gb210, 2, none⟩ = some (.int .i64 t206) ∧ w'.cell? ⟨gb210, 3, none⟩ = some (.int .i64 t207) ∧ w'.cell? ⟨gb210, 4, none⟩ = some (.int .i64 t208) ∧ w'.cell? ⟨gb193, 0, none⟩ = some (.int .i64 a0_0) ∧ w'.cell? ⟨gb193, 1, none⟩ = some (.int .i64 a0_1) ∧ w'.cell? ⟨gb193, 2, none⟩ = some (.int .i64 a0_2) ∧ w'.cell? ⟨gb193, 3, none⟩ = some (.int .i64 a0_3)) (ds := []) #[false, false, false, false, false, false, false, false, false, false, false, false, false, false, false, false] (by kernel_rfl) rfl rfl ⟨(blk_cell BK203.out 0).trans rfl, (blk_cell BK203.out 1).trans rfl, (blk_cell BK203.out 2).trans rfl, (blk_cell BK203.out 3).trans rfl, (blk_cell BK203.out 4).trans rfl, (blk_cell BK210.out 0).trans rfl, (blk_cell BK210.out 1).trans rfl, (blk_cell BK210.out 2).trans rfl, (blk_cell BK210.out 3).trans rfl, (blk_cell BK210.out 4).trans rfl, (blk_cell BK193.out 0).trans rfl, (blk_cell BK193.out 1).trans rfl, (blk_cell BK193.out 2).trans rfl, (blk_cell BK193.out 3).trans rfl⟩ (fun hHeld => ?_); refine with_tabW stolonlaw10_QuerierStays.tab6 stolonlaw10_QuerierStays.bits6 (fun HT_ HW_ => ?_)
              generalize w45.drew = w46 at BK193 BK194 BK203 BK210 HB hHeld ⊢
              refine take_ (i := 0) (N := some 31) (v := ?_) (a' := ?_) #[true, false, false, false, false, false, false, false, false, false, false, false, false, false, false, false] rfl rfl (take_ofW HT_.out HW_.out (by kernel_rfl)) (fun _ _ _ h => h) (Or.inl ⟨by rfl, ?_⟩) hHeld ?_ ?_
              rotate_left
              · rintro w' ⟨s0, s1, s2, s3, s4, s5, s6, s7, s8, s9, s10, s11, s12, s13⟩
                go_simp
                with_reducible rfl
              rotate_left
              · simp only [Act.put, List.setIfInBounds_toArray, List.set_cons_zero, List.set_cons_succ, i64_w, i32_w]
                rfl
              refine one_ (i := 1) (N := some 32) #[true, true, false, false, false, false, false, false, false, false, false, false, false, false, false, false] rfl rfl (one_of HT_.out (by kernel_rfl)) (by decide) (fun K hK => ?_)
              refine goes_ Try.func15 (by kernel_rfl) rfl #[.agg #[.int .u32 t198, .int .u32 t199, .int .i64 t200, .int .i64 t201, .int .i64 t202]] (by rfl) rfl rfl (by (try simp only [List.map_toArray, List.map_cons, List.map_nil]); first | done | rfl | (simp only [List.length_drop, List.length_take]; rfl)) ?_
              with_reducible refine (stolonref10_Right.calls kj4 t198 t199 t200 t201 t202 true _ A40.out).mono ?_
              rintro e w47 ⟨rfl, hb⟩
              refine ⟨_, rfl, ?_⟩
              have n0_ := Aside0.mk (blk_below (g := gb193) (o := .cells #[.int .i64 a0_0, .int .i64 a0_1, .int .i64 a0_2, .int .i64 a0_3] 23 (0, 0)) (by (with_reducible repeat (first | refine blk_drewN ?_ _ | refine blk_drew ?_ | refine blk_alloc ?_ _)); exact BK193.out) hb)
              have n1_ := Aside0.mk (blk_below (g := gb194) (o := .cells #[.int .u32 a1_0, .int .u32 a1_1, .int .i64 a1_2, .int .i64 a1_3, .int .i64 a1_4] 27 (0, 0)) (by (with_reducible repeat (first | refine blk_drewN ?_ _ | refine blk_drew ?_ | refine blk_alloc ?_ _)); exact BK194.out) hb)
              have n2_ := Aside0.mk (blk_below (g := gb203) (o := .cells #[.int .u32 t198, .int .u32 t199, .int .i64 t200, .int .i64 t201, .int .i64 t202] 27 (0, 0)) (by (with_reducible repeat (first | refine blk_drewN ?_ _ | refine blk_drew ?_ | refine blk_alloc ?_ _)); exact BK203.out) hb)
              have n3_ := Aside0.mk (blk_below (g := gb210) (o := .cells #[.int .u32 t204, .int .u32 t205, .int .i64 t206, .int .i64 t207, .int .i64 t208] 27 (0, 0)) (by (with_reducible repeat (first | refine blk_drewN ?_ _ | refine blk_drew ?_ | refine blk_alloc ?_ _)); exact BK210.out) hb)
              have n4_ := Aside0.mk (below_step (by repeat (first | (with_reducible first | exact HB.out | apply below_alloc | apply pw_below_drewN | apply below_drew1 | refine below_set ?_ GE193.out | refine below_set ?_ GE194.out | refine below_set ?_ GE203.out | refine below_set ?_ GE210.out) | exact HB.out)) hb)
              clear BK193
              clear BK194
              clear BK203
              clear BK210
              clear HB
              have BK193 := n0_
              have BK194 := n1_
              have BK203 := n2_
              have BK210 := n3_
              have HB := n4_
              clear n0_ n1_ n2_ n3_ n4_
              (try clear hb)
              (try clear hb2)
              (try clear hk)
              (try clear hi)
              refine hK.out _ _ ⟨(blk_cell BK203.out 0).trans rfl, (blk_cell BK203.out 1).trans rfl, (blk_cell BK203.out 2).trans rfl, (blk_cell BK203.out 3).trans rfl, (blk_cell BK203.out 4).trans rfl, (blk_cell BK210.out 0).trans rfl, (blk_cell BK210.out 1).trans rfl, (blk_cell BK210.out 2).trans rfl, (blk_cell BK210.out 3).trans rfl, (blk_cell BK210.out 4).trans rfl, (blk_cell BK193.out 0).trans rfl, (blk_cell BK193.out 1).trans rfl, (blk_cell BK193.out 2).trans rfl, (blk_cell BK193.out 3).trans rfl⟩ (fun hHeld => ?_)
              clear hK K
              refine norm_ (a' := ?_) ?_ ?_
              rotate_left
              · show Act.put _ (some 32) _ = _
                simp only [Act.put, List.setIfInBounds_toArray, List.set_cons_zero, List.set_cons_succ, i64_w, i32_w]
                rfl
              refine pure_ (i := 2) (N := some 33) (v := ?_) (a' := ?_) #[true, true, true, false, false, false, false, false, false, false, false, false, false, false, false, false] rfl rfl (any_of HT_.out (by kernel_rfl)) (fun _ _ _ h => h) (Or.inl ⟨by rfl, ?_⟩) ?_ ?_
              rotate_left
              · intro w'
                go_simp
                with_reducible rfl
              rotate_left
              · simp only [Act.put, List.setIfInBounds_toArray, List.set_cons_zero, List.set_cons_succ, i64_w, i32_w]
                rfl
              refine pure_ (i := 3) (N := some 34) (v := ?_) (a' := ?_) #[true, true, true, true, false, false, false, false, false, false, false, false, false, false, false, false] rfl rfl (any_of HT_.out (by kernel_rfl)) (fun _ _ _ h => h) (Or.inl ⟨by rfl, ?_⟩) ?_ ?_
              rotate_left
              · intro w'
                go_simp
                with_reducible rfl
              rotate_left
              · simp only [Act.put, List.setIfInBounds_toArray, List.set_cons_zero, List.set_cons_succ, i64_w, i32_w]
                rfl
              refine take_ (i := 4) (N := some 35) (v := ?_) (a' := ?_) #[true, true, true, true, true, false, false, false, false, false, false, false, false, false, false, false] rfl rfl (take_ofW HT_.out HW_.out (by kernel_rfl)) (fun _ _ _ h => h) (Or.inl ⟨by rfl, ?_⟩) hHeld ?_ ?_
              rotate_left
              · rintro w' ⟨s0, s1, s2, s3, s4, s5, s6, s7, s8, s9, s10, s11, s12, s13⟩
                go_simp
                with_reducible rfl
              rotate_left
              · simp only [Act.put, List.setIfInBounds_toArray, List.set_cons_zero, List.set_cons_succ, i64_w, i32_w]
                rfl
              refine one_ (i := 5) (N := some 36) #[true, true, true, true, true, true, false, false, false, false, false, false, false, false, false, false] rfl rfl (one_of HT_.out (by kernel_rfl)) (by decide) (fun K hK => ?_)
              refine goes_ Try.func15 (by kernel_rfl) rfl #[.agg #[.int .u32 t204, .int .u32 t205, .int .i64 t206, .int .i64 t207, .int .i64 t208]] (by rfl) rfl rfl (by (try simp only [List.map_toArray, List.map_cons, List.map_nil]); first | done | rfl | (simp only [List.length_drop, List.length_take]; rfl)) ?_
              with_reducible refine (stolonref10_Right.calls kj4 t204 t205 t206 t207 t208 true _ A42.out).mono ?_
              rintro e w48 ⟨rfl, hb⟩
              refine ⟨_, rfl, ?_⟩
              have n0_ := Aside0.mk (blk_below (g := gb193) (o := .cells #[.int .i64 a0_0, .int .i64 a0_1, .int .i64 a0_2, .int .i64 a0_3] 23 (0, 0)) (by (with_reducible repeat (first | refine blk_drewN ?_ _ | refine blk_drew ?_ | refine blk_alloc ?_ _)); exact BK193.out) hb)
              have n1_ := Aside0.mk (blk_below (g := gb194) (o := .cells #[.int .u32 a1_0, .int .u32 a1_1, .int .i64 a1_2, .int .i64 a1_3, .int .i64 a1_4] 27 (0, 0)) (by (with_reducible repeat (first | refine blk_drewN ?_ _ | refine blk_drew ?_ | refine blk_alloc ?_ _)); exact BK194.out) hb)
              have n2_ := Aside0.mk (blk_below (g := gb203) (o := .cells #[.int .u32 t198, .int .u32 t199, .int .i64 t200, .int .i64 t201, .int .i64 t202] 27 (0, 0)) (by (with_reducible repeat (first | refine blk_drewN ?_ _ | refine blk_drew ?_ | refine blk_alloc ?_ _)); exact BK203.out) hb)
              have n3_ := Aside0.mk (blk_below (g := gb210) (o := .cells #[.int .u32 t204, .int .u32 t205, .int .i64 t206, .int .i64 t207, .int .i64 t208] 27 (0, 0)) (by (with_reducible repeat (first | refine blk_drewN ?_ _ | refine blk_drew ?_ | refine blk_alloc ?_ _)); exact BK210.out) hb)
              have n4_ := Aside0.mk (below_step (by repeat (first | (with_reducible first | exact HB.out | apply below_alloc | apply pw_below_drewN | apply below_drew1 | refine below_set ?_ GE193.out | refine below_set ?_ GE194.out | refine below_set ?_ GE203.out | refine below_set ?_ GE210.out) | exact HB.out)) hb)
              clear BK193
              clear BK194
              clear BK203
              clear BK210
              clear HB
              have BK193 := n0_
              have BK194 := n1_
              have BK203 := n2_
              have BK210 := n3_
              have HB := n4_
              clear n0_ n1_ n2_ n3_ n4_
              (try clear hb)
              (try clear hb2)
              (try clear hk)
              (try clear hi)
              refine hK.out _ _ ⟨(blk_cell BK203.out 0).trans rfl, (blk_cell BK203.out 1).trans rfl, (blk_cell BK203.out 2).trans rfl, (blk_cell BK203.out 3).trans rfl, (blk_cell BK203.out 4).trans rfl, (blk_cell BK210.out 0).trans rfl, (blk_cell BK210.out 1).trans rfl, (blk_cell BK210.out 2).trans rfl, (blk_cell BK210.out 3).trans rfl, (blk_cell BK210.out 4).trans rfl, (blk_cell BK193.out 0).trans rfl, (blk_cell BK193.out 1).trans rfl, (blk_cell BK193.out 2).trans rfl, (blk_cell BK193.out 3).trans rfl⟩ (fun hHeld => ?_)
              clear hK K
              refine norm_ (a' := ?_) ?_ ?_
              rotate_left
              · show Act.put _ (some 36) _ = _
                simp only [Act.put, List.setIfInBounds_toArray, List.set_cons_zero, List.set_cons_succ, i64_w, i32_w]
                rfl
              refine pure_ (i := 6) (N := some 37) (v := ?_) (a' := ?_) #[true, true, true, true, true, true, true, false, false, false, false, false, false, false, false, false] rfl rfl (any_of HT_.out (by kernel_rfl)) (fun _ _ _ h => h) (Or.inl ⟨by rfl, ?_⟩) ?_ ?_
              rotate_left
              · intro w'
                go_simp
                with_reducible rfl
              rotate_left
              · simp only [Act.put, List.setIfInBounds_toArray, List.set_cons_zero, List.set_cons_succ, i64_w, i32_w]
                rfl
              refine pure_ (i := 7) (N := some 38) (v := ?_) (a' := ?_) #[true, true, true, true, true, true, true, true, false, false, false, false, false, false, false, false] rfl rfl (any_of HT_.out (by kernel_rfl)) (fun _ _ _ h => h) (Or.inl ⟨by rfl, ?_⟩) ?_ ?_
              rotate_left
              · intro w'
                go_simp
                with_reducible rfl
              rotate_left
              · simp only [Act.put, List.setIfInBounds_toArray, List.set_cons_zero, List.set_cons_succ, i64_w, i32_w]
                rfl
              refine pure_ (i := 8) (N := some 39) (v := ?_) (a' := ?_) #[true, true, true, true, true, true, true, true, true, false, false, false, false, false, false, false] rfl rfl (any_of HT_.out (by kernel_rfl)) (fun _ _ _ h => h) (Or.inl ⟨by rfl, ?_⟩) ?_ ?_
              rotate_left
              · intro w'
                go_simp
                with_reducible rfl
              rotate_left
              · simp only [Act.put, List.setIfInBounds_toArray, List.set_cons_zero, List.set_cons_succ, i64_w, i32_w]
                rfl
              refine pure_ (i := 11) (N := some 42) (v := ?_) (a' := ?_) #[true, true, true, true, true, true, true, true, true, false, false, true, false, false, false, false] rfl rfl (any_of HT_.out (by kernel_rfl)) (fun _ _ _ h => h) (Or.inl ⟨by rfl, ?_⟩) ?_ ?_
              rotate_left
              · intro w'
                go_simp
                with_reducible rfl
              rotate_left
              · simp only [Act.put, List.setIfInBounds_toArray, List.set_cons_zero, List.set_cons_succ, i64_w, i32_w]
                rfl
              refine take_ (i := 9) (N := some 40) (v := ?_) (a' := ?_) #[true, true, true, true, true, true, true, true, true, true, false, true, false, false, false, false] rfl rfl (take_ofW HT_.out HW_.out (by kernel_rfl)) (fun _ _ _ h => h) (Or.inl ⟨by rfl, ?_⟩) hHeld ?_ ?_
              rotate_left
              · rintro w' ⟨s0, s1, s2, s3, s4, s5, s6, s7, s8, s9, s10, s11, s12, s13⟩
                go_simp
                with_reducible rfl
              rotate_left
              · simp only [Act.put, List.setIfInBounds_toArray, List.set_cons_zero, List.set_cons_succ, i64_w, i32_w]
                rfl
              refine take_ (i := 10) (N := some 41) (v := ?_) (a' := ?_) #[true, true, true, true, true, true, true, true, true, true, true, true, false, false, false, false] rfl rfl (take_ofW HT_.out HW_.out (by kernel_rfl)) (fun _ _ _ h => h) (Or.inl ⟨by rfl, ?_⟩) hHeld ?_ ?_
              rotate_left
              · rintro w' ⟨s0, s1, s2, s3, s4, s5, s6, s7, s8, s9, s10, s11, s12, s13⟩
                go_simp
                with_reducible rfl
              rotate_left
              · simp only [Act.put, List.setIfInBounds_toArray, List.set_cons_zero, List.set_cons_succ, i64_w, i32_w]
                rfl
              refine take_ (i := 13) (N := some 44) (v := ?_) (a' := ?_) #[true, true, true, true, true, true, true, true, true, true, true, true, false, true, false, false] rfl rfl (take_ofW HT_.out HW_.out (by kernel_rfl)) (fun _ _ _ h => h) (Or.inl ⟨by rfl, ?_⟩) hHeld ?_ ?_
              rotate_left
              · rintro w' ⟨s0, s1, s2, s3, s4, s5, s6, s7, s8, s9, s10, s11, s12, s13⟩
                go_simp
                with_reducible rfl
              rotate_left
              · simp only [Act.put, List.setIfInBounds_toArray, List.set_cons_zero, List.set_cons_succ, i64_w, i32_w]
                rfl
              refine one_ (i := 12) (N := some 43) #[true, true, true, true, true, true, true, true, true, true, true, true, true, true, false, false] rfl rfl (one_of HT_.out (by kernel_rfl)) (by decide) (fun K hK => ?_)
              refine goes_ Try.func19 (by kernel_rfl) rfl #[.agg #[.int .i64 a0_0, .int .i64 a0_1, .int .i64 a0_2, .int .i64 a0_3], .agg #[.int .u32 t198, .int .u32 t199, .int .i64 t200, .int .i64 t201, .int .i64 t202], .int .u32 a2] (by rfl) rfl rfl (by (try simp only [List.map_toArray, List.map_cons, List.map_nil]); first | done | rfl | (simp only [List.length_drop, List.length_take]; rfl)) ?_
              with_reducible refine (querier_Hear.calls a0_0 a0_1 a0_2 a0_3 t198 t199 t200 t201 t202 a2 t213 t214 t215 t216 t217 _ A44.out).mono ?_
              rintro e w49 ⟨rfl, hb⟩
              refine ⟨_, rfl, ?_⟩
              have n0_ := Aside0.mk (blk_below (g := gb193) (o := .cells #[.int .i64 a0_0, .int .i64 a0_1, .int .i64 a0_2, .int .i64 a0_3] 23 (0, 0)) (by (with_reducible repeat (first | refine blk_drewN ?_ _ | refine blk_drew ?_ | refine blk_alloc ?_ _)); exact BK193.out) hb)
              have n1_ := Aside0.mk (blk_below (g := gb194) (o := .cells #[.int .u32 a1_0, .int .u32 a1_1, .int .i64 a1_2, .int .i64 a1_3, .int .i64 a1_4] 27 (0, 0)) (by (with_reducible repeat (first | refine blk_drewN ?_ _ | refine blk_drew ?_ | refine blk_alloc ?_ _)); exact BK194.out) hb)
              have n2_ := Aside0.mk (blk_below (g := gb203) (o := .cells #[.int .u32 t198, .int .u32 t199, .int .i64 t200, .int .i64 t201, .int .i64 t202] 27 (0, 0)) (by (with_reducible repeat (first | refine blk_drewN ?_ _ | refine blk_drew ?_ | refine blk_alloc ?_ _)); exact BK203.out) hb)
              have n3_ := Aside0.mk (blk_below (g := gb210) (o := .cells #[.int .u32 t204, .int .u32 t205, .int .i64 t206, .int .i64 t207, .int .i64 t208] 27 (0, 0)) (by (with_reducible repeat (first | refine blk_drewN ?_ _ | refine blk_drew ?_ | refine blk_alloc ?_ _)); exact BK210.out) hb)
              have n4_ := Aside0.mk (below_step (by repeat (first | (with_reducible first | exact HB.out | apply below_alloc | apply pw_below_drewN | apply below_drew1 | refine below_set ?_ GE193.out | refine below_set ?_ GE194.out | refine below_set ?_ GE203.out | refine below_set ?_ GE210.out) | exact HB.out)) hb)
              clear BK193
              clear BK194
              clear BK203
              clear BK210
              clear HB
              have BK193 := n0_
              have BK194 := n1_
              have BK203 := n2_
              have BK210 := n3_
              have HB := n4_
              clear n0_ n1_ n2_ n3_ n4_
              (try clear hb)
              (try clear hb2)
              (try clear hk)
              (try clear hi)
              refine hK.out _ _ ⟨(blk_cell BK203.out 0).trans rfl, (blk_cell BK203.out 1).trans rfl, (blk_cell BK203.out 2).trans rfl, (blk_cell BK203.out 3).trans rfl, (blk_cell BK203.out 4).trans rfl, (blk_cell BK210.out 0).trans rfl, (blk_cell BK210.out 1).trans rfl, (blk_cell BK210.out 2).trans rfl, (blk_cell BK210.out 3).trans rfl, (blk_cell BK210.out 4).trans rfl, (blk_cell BK193.out 0).trans rfl, (blk_cell BK193.out 1).trans rfl, (blk_cell BK193.out 2).trans rfl, (blk_cell BK193.out 3).trans rfl⟩ (fun hHeld => ?_)
              clear hK K
              refine norm_ (a' := ?_) ?_ ?_
              rotate_left
              · show Act.put _ (some 43) _ = _
                simp only [Act.put, List.setIfInBounds_toArray, List.set_cons_zero, List.set_cons_succ, i64_w, i32_w]
                rfl
              refine pure_ (i := 14) (N := some 45) (v := ?_) (a' := ?_) #[true, true, true, true, true, true, true, true, true, true, true, true, true, true, true, false] rfl rfl (any_of HT_.out (by kernel_rfl)) (fun _ _ _ h => h) (Or.inl ⟨by rfl, ?_⟩) ?_ ?_
              rotate_left
              · intro w'
                go_simp
                with_reducible rfl
              rotate_left
              · simp only [Act.put, List.setIfInBounds_toArray, List.set_cons_zero, List.set_cons_succ, i64_w, i32_w]
                rfl
              refine pure_ (i := 15) (N := some 46) (v := ?_) (a' := ?_) #[true, true, true, true, true, true, true, true, true, true, true, true, true, true, true, true] rfl rfl (any_of HT_.out (by kernel_rfl)) (fun _ _ _ h => h) (Or.inl ⟨by rfl, ?_⟩) ?_ ?_
              rotate_left
              · intro w'
                go_simp
                with_reducible rfl
              rotate_left
              · simp only [Act.put, List.setIfInBounds_toArray, List.set_cons_zero, List.set_cons_succ, i64_w, i32_w]
                rfl
              refine done_ (done_of HT_.out (by kernel_rfl)) ?_
              try go_wp2
              go_meet
              case rel => exact ⟨_, ((!(t213 == t198) || (!(t214 == t199) || (!(t215 == t200) || (!(t216 == t201) || (!(t217 == t202))))))), (by first | rfl | (simp; done) | (simp [*]; done)), H', ⟨by have := HJ4.out; first | omega | exact Nat.le_refl _⟩, ⟨by (with_reducible repeat (first | refine blk_drewN ?_ _ | refine blk_drew ?_ | refine blk_alloc ?_ _)); exact BK193.out⟩, ⟨by (with_reducible repeat (first | refine blk_drewN ?_ _ | refine blk_drew ?_ | refine blk_alloc ?_ _)); exact BK194.out⟩, ⟨by (with_reducible repeat (first | refine blk_drewN ?_ _ | refine blk_drew ?_ | refine blk_alloc ?_ _)); exact BK203.out⟩, ⟨by (with_reducible repeat (first | refine blk_drewN ?_ _ | refine blk_drew ?_ | refine blk_alloc ?_ _)); exact BK210.out⟩, ⟨by repeat (first | (with_reducible first | exact HB.out | apply below_alloc | apply pw_below_drewN | apply below_drew1 | refine below_set ?_ GE193.out | refine below_set ?_ GE194.out | refine below_set ?_ GE203.out | refine below_set ?_ GE210.out) | exact HB.out)⟩⟩
            · replace c43 := Bool.eq_false_iff.mpr c43
              subst c43
              have H1 : (stolonlaw10_QuerierStays.j1 kj4 a2 t195 true a1_0 a1_1 a1_2 a1_3 a1_4 t198 t199 t200 t201 t202) = some r := by rw [if_neg (show ¬ (false = true) by decide)] at H; exact H
              clear H
              have H := H1
              clear H1
              cases kj4 with
              | zero => exact absurd H (by simp [stolonlaw10_QuerierStays.j1])
              | succ k_ =>
                rw [stolonlaw10_QuerierStays.j1] at H
                exact absurd ((Option.some.inj ((if_pos rfl).symm.trans H)).trans hTrue.out) (by simp)
          · replace c41 := Bool.eq_false_iff.mpr c41
            subst c41
            have H1 : (stolonlaw10_QuerierStays.j1 kj4 a2 t195 true a1_0 a1_1 a1_2 a1_3 a1_4 t198 t199 t200 t201 t202) = some r := by rw [if_neg (show ¬ (false = true) by decide)] at H; exact H
            clear H
            have H := H1
            clear H1
            cases kj4 with
            | zero => exact absurd H (by simp [stolonlaw10_QuerierStays.j1])
            | succ k_ =>
              rw [stolonlaw10_QuerierStays.j1] at H
              exact absurd ((Option.some.inj ((if_pos rfl).symm.trans H)).trans hTrue.out) (by simp)
        case rest =>
          clear HC23
          try clear c1
          try clear c2
          try clear p2
          try clear c3
          try clear c4
          try clear c9
          try clear c10
          try clear c12
          try clear c13
          try clear c15
          try clear c17
          try clear c19
          try clear c20
          try clear c24
          try clear c29
          try clear c30
          try clear c36
          try clear c37
          try clear c38
          try clear c41
          try clear c43
          try clear hcz13_0
          try clear hcz13_1
          try clear hcz13_2
          try clear hcz13_3
          try clear hcz15_0
          try clear hcz15_1
          try clear hcz15_2
          try clear hcz15_3
          try clear hcz15_4
          try clear hcz18_0
          try clear hcz18_1
          try clear hcz18_2
          try clear hcz18_3
          try clear hcz25_0
          try clear hcz25_1
          try clear hcz25_2
          try clear hcz25_3
          try clear hcz26_0
          try clear hcz26_1
          try clear hcz26_2
          try clear hcz26_3
          try clear hcz26_4
          try clear hcz31_0
          try clear hcz31_1
          try clear hcz31_2
          try clear hcz31_3
          try clear hcz31_4
          try clear hcz32_0
          try clear hcz32_1
          try clear hcz32_2
          try clear hcz32_3
          try clear hcz33_0
          try clear hcz33_1
          try clear hcz33_2
          try clear hcz33_3
          try clear hcz33_4
          try clear hcz39_0
          try clear hcz39_1
          try clear hcz39_2
          try clear hcz39_3
          try clear hcz39_4
          try clear hfz13_0
          try clear hfz13_1
          try clear hfz13_2
          try clear hfz13_3
          try clear hfz15_0
          try clear hfz15_1
          try clear hfz15_2
          try clear hfz15_3
          try clear hfz15_4
          try clear hfz18_0
          try clear hfz18_1
          try clear hfz18_2
          try clear hfz18_3
          try clear hfz25_0
          try clear hfz25_1
          try clear hfz25_2
          try clear hfz25_3
          try clear hfz26_0
          try clear hfz26_1
          try clear hfz26_2
          try clear hfz26_3
          try clear hfz26_4
          try clear hfz31_0
          try clear hfz31_1
          try clear hfz31_2
          try clear hfz31_3
          try clear hfz31_4
          try clear hfz32_0
          try clear hfz32_1
          try clear hfz32_2
          try clear hfz32_3
          try clear hfz33_0
          try clear hfz33_1
          try clear hfz33_2
          try clear hfz33_3
          try clear hfz33_4
          try clear hfz39_0
          try clear hfz39_1
          try clear hfz39_2
          try clear hfz39_3
          try clear hfz39_4
          try clear p2
          obtain ⟨kq, x46_22, rfl, HA, HJ22, BK193, BK194, BK203, BK210, HB⟩ := hcut
          cases kq with
          | zero => exact absurd HA.out (by simp [stolonlaw10_QuerierStays.j1])
          | succ kj22 =>
            have H := HA.out
            clear HA
            simp only [stolonlaw10_QuerierStays.j1] at H
            by_cases c50 : x46_22 = true
            · subst c50
              have H1 : (some false) = some r := by rw [if_pos rfl] at H; exact H
              clear H
              have H := H1
              clear H1
              exact absurd ((Option.some.inj H).trans hTrue.out) (by simp)
            · replace c50 := Bool.eq_false_iff.mpr c50
              subst c50
              have H1 : (if a2 = 0 then (if t195 = true then (some (t198 == a1_0 && (t199 == a1_1 && (t200 == a1_2 && (t201 == a1_3 && (t202 == a1_4)))))) else (some false)) else (if a2 ≥ a1_0 then (if t195 = true then (some (t198 == a1_0 && (t199 == a1_1 && (t200 == a1_2 && (t201 == a1_3 && (t202 == a1_4)))))) else (some false)) else (if t195 = true then ((querier_Asks.f t198 t199 t200 t201 t202).bind fun t218 => (if t218 = true then (some false) else (some (decide (t199 ≤ a2))))) else (some false)))) = some r := by rw [if_neg (show ¬ (false = true) by decide)] at H; exact H
              clear H
              have H := H1
              clear H1
              by_cases c51 : a2 = 0
              · rw [if_pos c51] at H
                have c51b0 : (a2 == 0) = true := beq_iff_eq.mpr c51
                have c51b1 : (a2 != 0) = false := bne_eq_false_iff_eq.mpr c51
                clear c51
                by_cases c52 : t195 = true
                · subst c52
                  have H1 : (some (t198 == a1_0 && (t199 == a1_1 && (t200 == a1_2 && (t201 == a1_3 && (t202 == a1_4)))))) = some r := by rw [if_pos rfl] at H; exact H
                  clear H
                  have H := H1
                  clear H1
                  obtain rfl := Option.some.inj H
                  have hnb53 := NB203_193.out
                  have hnc53 := NB193_203.out
                  have hnb54 := NB203_194.out
                  have hnc54 := NB194_203.out
                  have hnb55 := NB203_210.out
                  have hnc55 := NB210_203.out
                  have hcz56_0 : wc.cell? ⟨gb203, 0, none⟩ = some (.int .u32 t198) := (blk_cell BK203.out 0).trans rfl
                  have hcz56_1 : wc.cell? ⟨gb203, 1, none⟩ = some (.int .u32 t199) := (blk_cell BK203.out 1).trans rfl
                  have hcz56_2 : wc.cell? ⟨gb203, 2, none⟩ = some (.int .i64 t200) := (blk_cell BK203.out 2).trans rfl
                  have hcz56_3 : wc.cell? ⟨gb203, 3, none⟩ = some (.int .i64 t201) := (blk_cell BK203.out 3).trans rfl
                  have hcz56_4 : wc.cell? ⟨gb203, 4, none⟩ = some (.int .i64 t202) := (blk_cell BK203.out 4).trans rfl
                  have hfz56_0 := blk_frozen BK203.out 0
                  have hfz56_1 := blk_frozen BK203.out 1
                  have hfz56_2 := blk_frozen BK203.out 2
                  have hfz56_3 := blk_frozen BK203.out 3
                  have hfz56_4 := blk_frozen BK203.out 4
                  have hnb57 := NB194_193.out
                  have hnc57 := NB193_194.out
                  have hnb58 := NB194_210.out
                  have hnc58 := NB210_194.out
                  have hcz59_0 : wc.cell? ⟨gb194, 0, none⟩ = some (.int .u32 a1_0) := (blk_cell BK194.out 0).trans rfl
                  have hcz59_1 : wc.cell? ⟨gb194, 1, none⟩ = some (.int .u32 a1_1) := (blk_cell BK194.out 1).trans rfl
                  have hcz59_2 : wc.cell? ⟨gb194, 2, none⟩ = some (.int .i64 a1_2) := (blk_cell BK194.out 2).trans rfl
                  have hcz59_3 : wc.cell? ⟨gb194, 3, none⟩ = some (.int .i64 a1_3) := (blk_cell BK194.out 3).trans rfl
                  have hcz59_4 : wc.cell? ⟨gb194, 4, none⟩ = some (.int .i64 a1_4) := (blk_cell BK194.out 4).trans rfl
                  have hfz59_0 := blk_frozen BK194.out 0
                  have hfz59_1 := blk_frozen BK194.out 1
                  have hfz59_2 := blk_frozen BK194.out 2
                  have hfz59_3 := blk_frozen BK194.out 3
                  have hfz59_4 := blk_frozen BK194.out 4
                  go_wp2
                  go_ret
                  exact ⟨by first | rfl | (simp [errW_none, errW_some] <;> rfl) | (simp [*, errW_none, errW_some] <;> rfl), by repeat (first | (with_reducible first | exact HB.out | apply below_alloc | apply pw_below_drewN | apply below_drew1 | refine below_set ?_ GE193.out | refine below_set ?_ GE194.out | refine below_set ?_ GE203.out | refine below_set ?_ GE210.out) | exact HB.out)⟩
                · replace c52 := Bool.eq_false_iff.mpr c52
                  subst c52
                  have H1 : (some false) = some r := by rw [if_neg (show ¬ (false = true) by decide)] at H; exact H
                  clear H
                  have H := H1
                  clear H1
                  exact absurd ((Option.some.inj H).trans hTrue.out) (by simp)
              · rw [if_neg c51] at H
                have c51b0 : (a2 == 0) = false := beq_eq_false_iff_ne.mpr c51
                have c51b1 : (a2 != 0) = true := bne_iff_ne.mpr c51
                by_cases c60 : a2 ≥ a1_0
                · rw [if_pos c60] at H
                  have c60b0 : decide (a1_0 ≤ a2) = true := decide_eq_true c60
                  clear c60
                  by_cases c61 : t195 = true
                  · subst c61
                    have H1 : (some (t198 == a1_0 && (t199 == a1_1 && (t200 == a1_2 && (t201 == a1_3 && (t202 == a1_4)))))) = some r := by rw [if_pos rfl] at H; exact H
                    clear H
                    have H := H1
                    clear H1
                    obtain rfl := Option.some.inj H
                    have hnb62 := NB194_193.out
                    have hnc62 := NB193_194.out
                    have hnb63 := NB194_203.out
                    have hnc63 := NB203_194.out
                    have hnb64 := NB194_210.out
                    have hnc64 := NB210_194.out
                    have hcz65_0 : wc.cell? ⟨gb194, 0, none⟩ = some (.int .u32 a1_0) := (blk_cell BK194.out 0).trans rfl
                    have hcz65_1 : wc.cell? ⟨gb194, 1, none⟩ = some (.int .u32 a1_1) := (blk_cell BK194.out 1).trans rfl
                    have hcz65_2 : wc.cell? ⟨gb194, 2, none⟩ = some (.int .i64 a1_2) := (blk_cell BK194.out 2).trans rfl
                    have hcz65_3 : wc.cell? ⟨gb194, 3, none⟩ = some (.int .i64 a1_3) := (blk_cell BK194.out 3).trans rfl
                    have hcz65_4 : wc.cell? ⟨gb194, 4, none⟩ = some (.int .i64 a1_4) := (blk_cell BK194.out 4).trans rfl
                    have hfz65_0 := blk_frozen BK194.out 0
                    have hfz65_1 := blk_frozen BK194.out 1
                    have hfz65_2 := blk_frozen BK194.out 2
                    have hfz65_3 := blk_frozen BK194.out 3
                    have hfz65_4 := blk_frozen BK194.out 4
                    have hnb66 := NB203_193.out
                    have hnc66 := NB193_203.out
                    have hnb67 := NB203_210.out
                    have hnc67 := NB210_203.out
                    have hcz68_0 : wc.cell? ⟨gb203, 0, none⟩ = some (.int .u32 t198) := (blk_cell BK203.out 0).trans rfl
                    have hcz68_1 : wc.cell? ⟨gb203, 1, none⟩ = some (.int .u32 t199) := (blk_cell BK203.out 1).trans rfl
                    have hcz68_2 : wc.cell? ⟨gb203, 2, none⟩ = some (.int .i64 t200) := (blk_cell BK203.out 2).trans rfl
                    have hcz68_3 : wc.cell? ⟨gb203, 3, none⟩ = some (.int .i64 t201) := (blk_cell BK203.out 3).trans rfl
                    have hcz68_4 : wc.cell? ⟨gb203, 4, none⟩ = some (.int .i64 t202) := (blk_cell BK203.out 4).trans rfl
                    have hfz68_0 := blk_frozen BK203.out 0
                    have hfz68_1 := blk_frozen BK203.out 1
                    have hfz68_2 := blk_frozen BK203.out 2
                    have hfz68_3 := blk_frozen BK203.out 3
                    have hfz68_4 := blk_frozen BK203.out 4
                    go_wp2
                    go_ret
                    exact ⟨by first | rfl | (simp [errW_none, errW_some] <;> rfl) | (simp [*, errW_none, errW_some] <;> rfl), by repeat (first | (with_reducible first | exact HB.out | apply below_alloc | apply pw_below_drewN | apply below_drew1 | refine below_set ?_ GE193.out | refine below_set ?_ GE194.out | refine below_set ?_ GE203.out | refine below_set ?_ GE210.out) | exact HB.out)⟩
                  · replace c61 := Bool.eq_false_iff.mpr c61
                    subst c61
                    have H1 : (some false) = some r := by rw [if_neg (show ¬ (false = true) by decide)] at H; exact H
                    clear H
                    have H := H1
                    clear H1
                    exact absurd ((Option.some.inj H).trans hTrue.out) (by simp)
                · rw [if_neg c60] at H
                  have c60b0 : decide (a1_0 ≤ a2) = false := decide_eq_false c60
                  clear c60
                  by_cases c69 : t195 = true
                  · subst c69
                    have H1 : ((querier_Asks.f t198 t199 t200 t201 t202).bind fun t218 => (if t218 = true then (some false) else (some (decide (t199 ≤ a2))))) = some r := by rw [if_pos rfl] at H; exact H
                    clear H
                    have H := H1
                    clear H1
                    replace H := Option.bind_eq_some_iff.mp H
                    obtain ⟨t218, A700, H⟩ := H
                    replace H : (if t218 = true then (some false) else (some (decide (t199 ≤ a2)))) = some r := H
                    have A70 := Aside0.mk A700
                    clear A700
                    by_cases c71 : t218 = true
                    · subst c71
                      have H1 : (some false) = some r := by rw [if_pos rfl] at H; exact H
                      clear H
                      have H := H1
                      clear H1
                      exact absurd ((Option.some.inj H).trans hTrue.out) (by simp)
                    · replace c71 := Bool.eq_false_iff.mpr c71
                      subst c71
                      have H1 : (some (decide (t199 ≤ a2))) = some r := by rw [if_neg (show ¬ (false = true) by decide)] at H; exact H
                      clear H
                      have H := H1
                      clear H1
                      obtain rfl := Option.some.inj H
                      have hnb72 := NB194_193.out
                      have hnc72 := NB193_194.out
                      have hnb73 := NB194_203.out
                      have hnc73 := NB203_194.out
                      have hnb74 := NB194_210.out
                      have hnc74 := NB210_194.out
                      have hcz75_0 : wc.cell? ⟨gb194, 0, none⟩ = some (.int .u32 a1_0) := (blk_cell BK194.out 0).trans rfl
                      have hcz75_1 : wc.cell? ⟨gb194, 1, none⟩ = some (.int .u32 a1_1) := (blk_cell BK194.out 1).trans rfl
                      have hcz75_2 : wc.cell? ⟨gb194, 2, none⟩ = some (.int .i64 a1_2) := (blk_cell BK194.out 2).trans rfl
                      have hcz75_3 : wc.cell? ⟨gb194, 3, none⟩ = some (.int .i64 a1_3) := (blk_cell BK194.out 3).trans rfl
                      have hcz75_4 : wc.cell? ⟨gb194, 4, none⟩ = some (.int .i64 a1_4) := (blk_cell BK194.out 4).trans rfl
                      have hfz75_0 := blk_frozen BK194.out 0
                      have hfz75_1 := blk_frozen BK194.out 1
                      have hfz75_2 := blk_frozen BK194.out 2
                      have hfz75_3 := blk_frozen BK194.out 3
                      have hfz75_4 := blk_frozen BK194.out 4
                      have hnb76 := NB203_193.out
                      have hnc76 := NB193_203.out
                      have hnb77 := NB203_210.out
                      have hnc77 := NB210_203.out
                      have hcz78_0 : wc.cell? ⟨gb203, 0, none⟩ = some (.int .u32 t198) := (blk_cell BK203.out 0).trans rfl
                      have hcz78_1 : wc.cell? ⟨gb203, 1, none⟩ = some (.int .u32 t199) := (blk_cell BK203.out 1).trans rfl
                      have hcz78_2 : wc.cell? ⟨gb203, 2, none⟩ = some (.int .i64 t200) := (blk_cell BK203.out 2).trans rfl
                      have hcz78_3 : wc.cell? ⟨gb203, 3, none⟩ = some (.int .i64 t201) := (blk_cell BK203.out 3).trans rfl
                      have hcz78_4 : wc.cell? ⟨gb203, 4, none⟩ = some (.int .i64 t202) := (blk_cell BK203.out 4).trans rfl
                      have hfz78_0 := blk_frozen BK203.out 0
                      have hfz78_1 := blk_frozen BK203.out 1
                      have hfz78_2 := blk_frozen BK203.out 2
                      have hfz78_3 := blk_frozen BK203.out 3
                      have hfz78_4 := blk_frozen BK203.out 4
                      go_wp2_with (first | (go_at_call 16; (with_reducible refine (querier_Asks.calls t198 t199 t200 t201 t202 false _ A70.out).mono ?_); rintro e w79 ⟨rfl, hb⟩; have n0_ := Aside0.mk (blk_below (g := gb193) (o := .cells #[.int .i64 a0_0, .int .i64 a0_1, .int .i64 a0_2, .int .i64 a0_3] 23 (0, 0)) (by (with_reducible repeat (first | refine blk_drewN ?_ _ | refine blk_drew ?_ | refine blk_alloc ?_ _)); exact BK193.out) hb); have n1_ := Aside0.mk (blk_below (g := gb194) (o := .cells #[.int .u32 a1_0, .int .u32 a1_1, .int .i64 a1_2, .int .i64 a1_3, .int .i64 a1_4] 27 (0, 0)) (by (with_reducible repeat (first | refine blk_drewN ?_ _ | refine blk_drew ?_ | refine blk_alloc ?_ _)); exact BK194.out) hb); have n2_ := Aside0.mk (blk_below (g := gb203) (o := .cells #[.int .u32 t198, .int .u32 t199, .int .i64 t200, .int .i64 t201, .int .i64 t202] 27 (0, 0)) (by (with_reducible repeat (first | refine blk_drewN ?_ _ | refine blk_drew ?_ | refine blk_alloc ?_ _)); exact BK203.out) hb); have n3_ := Aside0.mk (blk_below (g := gb210) (o := .cells #[.int .u32 t204, .int .u32 t205, .int .i64 t206, .int .i64 t207, .int .i64 t208] 27 (0, 0)) (by (with_reducible repeat (first | refine blk_drewN ?_ _ | refine blk_drew ?_ | refine blk_alloc ?_ _)); exact BK210.out) hb); have n4_ := Aside0.mk (below_step (by repeat (first | (with_reducible first | exact HB.out | apply below_alloc | apply pw_below_drewN | apply below_drew1 | refine below_set ?_ GE193.out | refine below_set ?_ GE194.out | refine below_set ?_ GE203.out | refine below_set ?_ GE210.out) | exact HB.out)) hb); clear BK193; clear BK194; clear BK203; clear BK210; clear HB; have BK193 := n0_; have BK194 := n1_; have BK203 := n2_; have BK210 := n3_; have HB := n4_; clear n0_ n1_ n2_ n3_ n4_; (try clear hb); (try clear hb2); (try clear hk); (try clear hi); have hcz80_0 : w79.cell? ⟨gb203, 0, none⟩ = some (.int .u32 t198) := (blk_cell BK203.out 0).trans rfl; have hcz80_1 : w79.cell? ⟨gb203, 1, none⟩ = some (.int .u32 t199) := (blk_cell BK203.out 1).trans rfl; have hcz80_2 : w79.cell? ⟨gb203, 2, none⟩ = some (.int .i64 t200) := (blk_cell BK203.out 2).trans rfl; have hcz80_3 : w79.cell? ⟨gb203, 3, none⟩ = some (.int .i64 t201) := (blk_cell BK203.out 3).trans rfl; have hcz80_4 : w79.cell? ⟨gb203, 4, none⟩ = some (.int .i64 t202) := (blk_cell BK203.out 4).trans rfl; have hfz80_0 := blk_frozen BK203.out 0; have hfz80_1 := blk_frozen BK203.out 1; have hfz80_2 := blk_frozen BK203.out 2; have hfz80_3 := blk_frozen BK203.out 3; have hfz80_4 := blk_frozen BK203.out 4))
                      go_ret
                      exact ⟨by first | rfl | (simp [errW_none, errW_some] <;> rfl) | (simp [*, errW_none, errW_some] <;> rfl), by repeat (first | (with_reducible first | exact HB.out | apply below_alloc | apply pw_below_drewN | apply below_drew1 | refine below_set ?_ GE193.out | refine below_set ?_ GE194.out | refine below_set ?_ GE203.out | refine below_set ?_ GE210.out) | exact HB.out)⟩
                  · replace c69 := Bool.eq_false_iff.mpr c69
                    subst c69
                    have H1 : (some false) = some r := by rw [if_neg (show ¬ (false = true) by decide)] at H; exact H
                    clear H
                    have H := H1
                    clear H1
                    exact absurd ((Option.some.inj H).trans hTrue.out) (by simp)

end Go.Proofs.Ytlihbdinghoeeaa.P
