/- For each Go function a Lean function, and the proof that a call comes to what it tells: made by program out of the translation (the kit's print, with texts by hand put in). No condition. -/
import Derived.Test.YtlihbdinghoeeaaPx0
import Derived.Test.YtlihbdinghoeeaaPx5
import Derived.Test.YtlihbdinghoeeaaPx7
import Derived.Test.YtlihbdinghoeeaaPx9
namespace Go.Proofs.Ytlihbdinghoeeaa.P
open Go.RowKit Go.Proofs.YtlihbdinghoeeaaW.PrintWords Go.Proofs.YtlihbdinghoeeaaW.PrintLast Go.Proofs.YtlihbdinghoeeaaW.PrintMore
attribute [local go_sem] max2_int min2_int max_two min_two max_three min_three max_four min_four   -- for this text's walks alone
set_option linter.unusedVariables false
set_option linter.unusedSimpArgs false

/-! ### stolonlaw10_QuerierTurns: function 5 -/
mutual
def stolonlaw10_QuerierTurns.j0 : Nat → Int → Int → Bool → Bool → Int → Int → Int → Int → Option (Bool)
  | 0, _, _, _, _, _, _, _, _ => none
  | k + 1, x1, x2, x7, x37, x220000, x220001, x220002, x220003 => if x37 = true then (some x7) else ((querier_New.f x220000 x220001 x220002 x220003 x1).bind fun bt222 => (if bt222.2.2.2.2.2 = 0 then (stolonlaw10_QuerierTurns.l0 k x2 x7 0 0 0 x220000 x220001 x220002 x220003 bt222.1 bt222.2.1 bt222.2.2.1 bt222.2.2.2.1 bt222.2.2.2.2.1) else (some false)))
def stolonlaw10_QuerierTurns.l0 : Nat → Int → Bool → Int → Int → Int → Int → Int → Int → Int → Int → Int → Int → Int → Int → Option (Bool)
  | 0, _, _, _, _, _, _, _, _, _, _, _, _, _, _ => none
  | k + 1, x2, x7, x10, x11, x12, x220000, x220001, x220002, x220003, x229000, x229001, x229002, x229003, x229004 => if x12 ≤ (wrap64 (x2)) then ((querier_Tick.f x220000 x220001 x220002 x220003 x229000 x229001 x229002 x229003 x229004).bind fun bt229 => (if (bt229.2.2.2.2.2 != (x12 == x10)) = true then (some false) else (if bt229.2.2.2.2.2 = true then (if (wrap64 (x11 + 1)) < x220002 then (stolonlaw10_QuerierTurns.l0 k x2 x7 (wrap64 (x12 + x220001)) (wrap64 (x11 + 1)) (wrap64 (x12 + 1)) x220000 x220001 x220002 x220003 bt229.1 bt229.2.1 bt229.2.2.1 bt229.2.2.2.1 bt229.2.2.2.2.1) else (stolonlaw10_QuerierTurns.l0 k x2 x7 (wrap64 (x12 + x220000)) (wrap64 (x11 + 1)) (wrap64 (x12 + 1)) x220000 x220001 x220002 x220003 bt229.1 bt229.2.1 bt229.2.2.1 bt229.2.2.2.1 bt229.2.2.2.2.1)) else (stolonlaw10_QuerierTurns.l0 k x2 x7 x10 x11 (wrap64 (x12 + 1)) x220000 x220001 x220002 x220003 bt229.1 bt229.2.1 bt229.2.2.1 bt229.2.2.2.1 bt229.2.2.2.2.1)))) else (some x7)
end
def stolonlaw10_QuerierTurns.f (k : Nat) (a0_0 : Int) (a0_1 : Int) (a0_2 : Int) (a0_3 : Int) (a1 : Int) (a2 : Int) : Option (Bool) := (stolonlaw10_shown.f).bind fun t220 => ((stolonref10_May.f a0_0 a0_1 a0_2 a0_3).bind fun t221 => (if t221 = true then (if a1 = 0 then (stolonlaw10_QuerierTurns.j0 k a1 a2 t220 true a0_0 a0_1 a0_2 a0_3) else (if a0_2 > 20 then (stolonlaw10_QuerierTurns.j0 k a1 a2 t220 true a0_0 a0_1 a0_2 a0_3) else (if a0_1 > 20 then (stolonlaw10_QuerierTurns.j0 k a1 a2 t220 true a0_0 a0_1 a0_2 a0_3) else (stolonlaw10_QuerierTurns.j0 k a1 a2 t220 (decide (a0_0 > 100)) a0_0 a0_1 a0_2 a0_3)))) else (stolonlaw10_QuerierTurns.j0 k a1 a2 t220 true a0_0 a0_1 a0_2 a0_3)))
theorem stolonlaw10_QuerierTurns.mono_l : ∀ k, (∀ y0 y1 y2 y3 y4 y5 y6 y7, LeO (stolonlaw10_QuerierTurns.j0 k y0 y1 y2 y3 y4 y5 y6 y7) (stolonlaw10_QuerierTurns.j0 (k + 1) y0 y1 y2 y3 y4 y5 y6 y7)) ∧ (∀ y0 y1 y2 y3 y4 y5 y6 y7 y8 y9 y10 y11 y12 y13, LeO (stolonlaw10_QuerierTurns.l0 k y0 y1 y2 y3 y4 y5 y6 y7 y8 y9 y10 y11 y12 y13) (stolonlaw10_QuerierTurns.l0 (k + 1) y0 y1 y2 y3 y4 y5 y6 y7 y8 y9 y10 y11 y12 y13))
  | 0 => ⟨fun _ _ _ _ _ _ _ _ r h => by simp [stolonlaw10_QuerierTurns.j0] at h, fun _ _ _ _ _ _ _ _ _ _ _ _ _ _ r h => by simp [stolonlaw10_QuerierTurns.l0] at h⟩
  | k + 1 => by
    obtain ⟨ih0, ih1⟩ := stolonlaw10_QuerierTurns.mono_l k
    refine ⟨?_, ?_⟩
    · intro y0 y1 y2 y3 y4 y5 y6 y7
      unfold stolonlaw10_QuerierTurns.j0
      repeat' first
      | (with_reducible exact ih0 _ _ _ _ _ _ _ _)
      | (with_reducible exact ih1 _ _ _ _ _ _ _ _ _ _ _ _ _ _)
      | (with_reducible exact LeO.refl _)
      | (with_reducible exact LeO.none _)
      | (with_reducible refine LeO.ite ?_ ?_)
      | (with_reducible refine LeO.bind ?_ (fun _ => ?_))
      | exact ih0 _ _ _ _ _ _ _ _
      | exact ih1 _ _ _ _ _ _ _ _ _ _ _ _ _ _
      | exact LeO.none _
      | refine LeO.ite ?_ ?_
      | refine LeO.bind ?_ (fun _ => ?_)
    · intro y0 y1 y2 y3 y4 y5 y6 y7 y8 y9 y10 y11 y12 y13
      unfold stolonlaw10_QuerierTurns.l0
      repeat' first
      | (with_reducible exact ih0 _ _ _ _ _ _ _ _)
      | (with_reducible exact ih1 _ _ _ _ _ _ _ _ _ _ _ _ _ _)
      | (with_reducible exact LeO.refl _)
      | (with_reducible exact LeO.none _)
      | (with_reducible refine LeO.ite ?_ ?_)
      | (with_reducible refine LeO.bind ?_ (fun _ => ?_))
      | exact ih0 _ _ _ _ _ _ _ _
      | exact ih1 _ _ _ _ _ _ _ _ _ _ _ _ _ _
      | exact LeO.none _
      | refine LeO.ite ?_ ?_
      | refine LeO.bind ?_ (fun _ => ?_)
theorem stolonlaw10_QuerierTurns.mono : ∀ a0 a1 a2 a3 a4 a5 k, LeO (stolonlaw10_QuerierTurns.f k a0 a1 a2 a3 a4 a5) (stolonlaw10_QuerierTurns.f (k + 1) a0 a1 a2 a3 a4 a5) := by
  intro a0 a1 a2 a3 a4 a5 k
  obtain ⟨ih0, ih1⟩ := stolonlaw10_QuerierTurns.mono_l k
  unfold stolonlaw10_QuerierTurns.f
  repeat' first
      | (with_reducible exact ih0 _ _ _ _ _ _ _ _)
      | (with_reducible exact ih1 _ _ _ _ _ _ _ _ _ _ _ _ _ _)
      | (with_reducible exact LeO.refl _)
      | (with_reducible exact LeO.none _)
      | (with_reducible refine LeO.ite ?_ ?_)
      | (with_reducible refine LeO.bind ?_ (fun _ => ?_))
      | exact ih0 _ _ _ _ _ _ _ _
      | exact ih1 _ _ _ _ _ _ _ _ _ _ _ _ _ _
      | exact LeO.none _
      | refine LeO.ite ?_ ?_
      | refine LeO.bind ?_ (fun _ => ?_)
set_option maxHeartbeats 8000000 in
set_option maxRecDepth 100000 in
theorem stolonlaw10_QuerierTurns.calls (k : Nat) (a0_0 : Int) (a0_1 : Int) (a0_2 : Int) (a0_3 : Int) (a1 : Int) (a2 : Int) (r : Bool) (w : World) (hTrue : Aside0 (r = true)) (h : stolonlaw10_QuerierTurns.f k a0_0 a0_1 a0_2 a0_3 a1 a2 = some r) :
    Calls Try.prog 5 #[.agg #[.int .i64 a0_0, .int .i64 a0_1, .int .i64 a0_2, .int .i64 a0_3], .int .u32 a1, .int .u8 a2] w fun e w' => e = .returned (.bool r) ∧ Below w.heap.size w w' := by
  have hu23 := Try.underlying23
  have hu27 := Try.underlying27
  have HB := Aside0.mk (Below.refl w.heap.size w)
  have H : ((stolonlaw10_shown.f).bind fun t220 => ((stolonref10_May.f a0_0 a0_1 a0_2 a0_3).bind fun t221 => (if t221 = true then (if a1 = 0 then (stolonlaw10_QuerierTurns.j0 k a1 a2 t220 true a0_0 a0_1 a0_2 a0_3) else (if a0_2 > 20 then (stolonlaw10_QuerierTurns.j0 k a1 a2 t220 true a0_0 a0_1 a0_2 a0_3) else (if a0_1 > 20 then (stolonlaw10_QuerierTurns.j0 k a1 a2 t220 true a0_0 a0_1 a0_2 a0_3) else (stolonlaw10_QuerierTurns.j0 k a1 a2 t220 (decide (a0_0 > 100)) a0_0 a0_1 a0_2 a0_3)))) else (stolonlaw10_QuerierTurns.j0 k a1 a2 t220 true a0_0 a0_1 a0_2 a0_3)))) = some r := h
  clear h
  replace H := Option.bind_eq_some_iff.mp H
  obtain ⟨t220, A40, H⟩ := H
  replace H : ((stolonref10_May.f a0_0 a0_1 a0_2 a0_3).bind fun t221 => (if t221 = true then (if a1 = 0 then (stolonlaw10_QuerierTurns.j0 k a1 a2 t220 true a0_0 a0_1 a0_2 a0_3) else (if a0_2 > 20 then (stolonlaw10_QuerierTurns.j0 k a1 a2 t220 true a0_0 a0_1 a0_2 a0_3) else (if a0_1 > 20 then (stolonlaw10_QuerierTurns.j0 k a1 a2 t220 true a0_0 a0_1 a0_2 a0_3) else (stolonlaw10_QuerierTurns.j0 k a1 a2 t220 (decide (a0_0 > 100)) a0_0 a0_1 a0_2 a0_3)))) else (stolonlaw10_QuerierTurns.j0 k a1 a2 t220 true a0_0 a0_1 a0_2 a0_3))) = some r := H
  have A4 := Aside0.mk A40
  clear A40
  have HC5 := Aside0.mk H
  clear H
  go_enter Try.func5, Try.ntmps5
  go_upto_region 2 with (first | ((with_reducible refine gate_dst (N := 3) rfl ?_); refine box_event ?hg (N := 3) ?hd (cs := #[.int .i64 a0_0, .int .i64 a0_1, .int .i64 a0_2, .int .i64 a0_3]) (t := 23) ?hr ?_; (case hd => rfl); (case hg => rfl); (case hr => first | (go_simp; done) | (go_simp; rfl)); intro gb219 hg w6 hbox hb; have n0_ := Aside0.mk (below_step (by repeat (first | (with_reducible first | exact HB.out | apply below_alloc | apply pw_below_drewN | apply below_drew1) | exact HB.out)) hb); have n1_ := Aside0.mk (hbox); have n2_ := Aside0.mk ((by rw [hg]; exact (below_size (by repeat (first | (with_reducible first | exact HB.out | apply below_alloc | apply pw_below_drewN | apply below_drew1) | exact HB.out))) : w.heap.size ≤ gb219)); have n3_ := Aside0.mk ((by rw [hg]; exact (below_size (by repeat (first | (with_reducible first | exact HB.out | apply below_alloc | apply pw_below_drewN | apply below_drew1) | exact HB.out))) : w.heap.size ≤ gb219)); clear HB; have HB := n0_; have BK219 := n1_; have GW219 := n2_; have GE219 := n3_; clear n0_ n1_ n2_ n3_; clear hb hbox hg) | ((with_reducible refine gate_callee (f := 9) rfl ?_); refine goesL_ (some 15) rfl rfl Try.func9 (by kernel_rfl) rfl #[] rfl (by (try simp only [List.map_toArray, List.map_cons, List.map_nil]); first | done | rfl | (simp only [List.length_drop, List.length_take]; rfl)) ?_; (with_reducible refine (stolonlaw10_shown.calls  t220 _ A4.out).mono ?_); rintro e w7 ⟨rfl, hb⟩; refine ⟨_, rfl, ?_⟩; have n0_ := Aside0.mk (blk_below (g := gb219) (o := .cells #[.int .i64 a0_0, .int .i64 a0_1, .int .i64 a0_2, .int .i64 a0_3] 23 (0, 0)) (by (with_reducible repeat (first | refine blk_drewN ?_ _ | refine blk_drew ?_ | refine blk_alloc ?_ _)); exact BK219.out) hb); have n1_ := Aside0.mk (below_step (by repeat (first | (with_reducible first | exact HB.out | apply below_alloc | apply pw_below_drewN | apply below_drew1 | refine below_set ?_ GE219.out) | exact HB.out)) hb); clear BK219; clear HB; have BK219 := n0_; have HB := n1_; clear n0_ n1_; (try clear hb); (try clear hb2); (try clear hk); (try clear hi)))
  (try simp only [Act.put, List.setIfInBounds_toArray, List.set_cons_zero, List.set_cons_succ])
  go_cut [37] (fun v37 wc => ∃ (kq : Nat) (x37_4 : Bool), v37 = .bool x37_4 ∧ Aside0 (stolonlaw10_QuerierTurns.j0 kq a1 a2 t220 x37_4 a0_0 a0_1 a0_2 a0_3 = some r) ∧ Aside0 (kq ≤ k) ∧ Aside0 (wc.heap[gb219]? = some (.cells #[.int .i64 a0_0, .int .i64 a0_1, .int .i64 a0_2, .int .i64 a0_3] 23 (0, 0))) ∧ Aside0 (Below w.heap.size w wc))
  case first =>
    have H := HC5.out
    clear HC5
    replace H := Option.bind_eq_some_iff.mp H
    obtain ⟨t221, A80, H⟩ := H
    replace H : (if t221 = true then (if a1 = 0 then (stolonlaw10_QuerierTurns.j0 k a1 a2 t220 true a0_0 a0_1 a0_2 a0_3) else (if a0_2 > 20 then (stolonlaw10_QuerierTurns.j0 k a1 a2 t220 true a0_0 a0_1 a0_2 a0_3) else (if a0_1 > 20 then (stolonlaw10_QuerierTurns.j0 k a1 a2 t220 true a0_0 a0_1 a0_2 a0_3) else (stolonlaw10_QuerierTurns.j0 k a1 a2 t220 (decide (a0_0 > 100)) a0_0 a0_1 a0_2 a0_3)))) else (stolonlaw10_QuerierTurns.j0 k a1 a2 t220 true a0_0 a0_1 a0_2 a0_3)) = some r := H
    have A8 := Aside0.mk A80
    clear A80
    by_cases c9 : t221 = true
    · subst c9
      have H1 : (if a1 = 0 then (stolonlaw10_QuerierTurns.j0 k a1 a2 t220 true a0_0 a0_1 a0_2 a0_3) else (if a0_2 > 20 then (stolonlaw10_QuerierTurns.j0 k a1 a2 t220 true a0_0 a0_1 a0_2 a0_3) else (if a0_1 > 20 then (stolonlaw10_QuerierTurns.j0 k a1 a2 t220 true a0_0 a0_1 a0_2 a0_3) else (stolonlaw10_QuerierTurns.j0 k a1 a2 t220 (decide (a0_0 > 100)) a0_0 a0_1 a0_2 a0_3)))) = some r := by rw [if_pos rfl] at H; exact H
      clear H
      have H := H1
      clear H1
      by_cases c10 : a1 = 0
      · rw [if_pos c10] at H
        have c10b0 : (a1 == 0) = true := beq_iff_eq.mpr c10
        have c10b1 : (a1 != 0) = false := bne_eq_false_iff_eq.mpr c10
        clear c10
        (first | rw [c10b0] | (simp only [i64_w, i32_w]; rw [c10b0]) | skip)
        have H' := Aside0.mk H
        clear H
        have hcz11_0 : w7.cell? ⟨gb219, 0, none⟩ = some (.int .i64 a0_0) := (blk_cell BK219.out 0).trans rfl
        have hcz11_1 : w7.cell? ⟨gb219, 1, none⟩ = some (.int .i64 a0_1) := (blk_cell BK219.out 1).trans rfl
        have hcz11_2 : w7.cell? ⟨gb219, 2, none⟩ = some (.int .i64 a0_2) := (blk_cell BK219.out 2).trans rfl
        have hcz11_3 : w7.cell? ⟨gb219, 3, none⟩ = some (.int .i64 a0_3) := (blk_cell BK219.out 3).trans rfl
        have hfz11_0 := blk_frozen BK219.out 0
        have hfz11_1 := blk_frozen BK219.out 1
        have hfz11_2 := blk_frozen BK219.out 2
        have hfz11_3 := blk_frozen BK219.out 3
        go_wp2_with (first | ((with_reducible refine gate_callee (f := 13) rfl ?_); refine goesL_ (some 17) rfl rfl Try.func13 (by kernel_rfl) rfl #[.agg #[.int .i64 a0_0, .int .i64 a0_1, .int .i64 a0_2, .int .i64 a0_3]] rfl (by (try simp only [List.map_toArray, List.map_cons, List.map_nil]); first | done | rfl | (simp only [List.length_drop, List.length_take]; rfl)) ?_; (with_reducible refine (stolonref10_May.calls a0_0 a0_1 a0_2 a0_3 true _ A8.out).mono ?_); rintro e w12 ⟨rfl, hb⟩; refine ⟨_, rfl, ?_⟩; have n0_ := Aside0.mk (blk_below (g := gb219) (o := .cells #[.int .i64 a0_0, .int .i64 a0_1, .int .i64 a0_2, .int .i64 a0_3] 23 (0, 0)) (by (with_reducible repeat (first | refine blk_drewN ?_ _ | refine blk_drew ?_ | refine blk_alloc ?_ _)); exact BK219.out) hb); have n1_ := Aside0.mk (below_step (by repeat (first | (with_reducible first | exact HB.out | apply below_alloc | apply pw_below_drewN | apply below_drew1 | refine below_set ?_ GE219.out) | exact HB.out)) hb); clear BK219; clear HB; have BK219 := n0_; have HB := n1_; clear n0_ n1_; (try clear hb); (try clear hb2); (try clear hk); (try clear hi)))
        go_meet
        case rel => exact ⟨_, (true), (by first | rfl | (simp; done) | (simp [*]; done)), H', ⟨by first | omega | exact Nat.le_refl _⟩, ⟨by (with_reducible repeat (first | refine blk_drewN ?_ _ | refine blk_drew ?_ | refine blk_alloc ?_ _)); exact BK219.out⟩, ⟨by repeat (first | (with_reducible first | exact HB.out | apply below_alloc | apply pw_below_drewN | apply below_drew1 | refine below_set ?_ GE219.out) | exact HB.out)⟩⟩
      · rw [if_neg c10] at H
        have c10b0 : (a1 == 0) = false := beq_eq_false_iff_ne.mpr c10
        have c10b1 : (a1 != 0) = true := bne_iff_ne.mpr c10
        (first | rw [c10b0] | (simp only [i64_w, i32_w]; rw [c10b0]) | skip)
        by_cases c13 : a0_2 > 20
        · rw [if_pos c13] at H
          have c13b0 : decide (20 < a0_2) = true := decide_eq_true c13
          clear c13
          have H' := Aside0.mk H
          clear H
          have hcz14_0 : w7.cell? ⟨gb219, 0, none⟩ = some (.int .i64 a0_0) := (blk_cell BK219.out 0).trans rfl
          have hcz14_1 : w7.cell? ⟨gb219, 1, none⟩ = some (.int .i64 a0_1) := (blk_cell BK219.out 1).trans rfl
          have hcz14_2 : w7.cell? ⟨gb219, 2, none⟩ = some (.int .i64 a0_2) := (blk_cell BK219.out 2).trans rfl
          have hcz14_3 : w7.cell? ⟨gb219, 3, none⟩ = some (.int .i64 a0_3) := (blk_cell BK219.out 3).trans rfl
          have hfz14_0 := blk_frozen BK219.out 0
          have hfz14_1 := blk_frozen BK219.out 1
          have hfz14_2 := blk_frozen BK219.out 2
          have hfz14_3 := blk_frozen BK219.out 3
          go_wp2_with (first | ((with_reducible refine gate_callee (f := 13) rfl ?_); refine goesL_ (some 17) rfl rfl Try.func13 (by kernel_rfl) rfl #[.agg #[.int .i64 a0_0, .int .i64 a0_1, .int .i64 a0_2, .int .i64 a0_3]] rfl (by (try simp only [List.map_toArray, List.map_cons, List.map_nil]); first | done | rfl | (simp only [List.length_drop, List.length_take]; rfl)) ?_; (with_reducible refine (stolonref10_May.calls a0_0 a0_1 a0_2 a0_3 true _ A8.out).mono ?_); rintro e w15 ⟨rfl, hb⟩; refine ⟨_, rfl, ?_⟩; have n0_ := Aside0.mk (blk_below (g := gb219) (o := .cells #[.int .i64 a0_0, .int .i64 a0_1, .int .i64 a0_2, .int .i64 a0_3] 23 (0, 0)) (by (with_reducible repeat (first | refine blk_drewN ?_ _ | refine blk_drew ?_ | refine blk_alloc ?_ _)); exact BK219.out) hb); have n1_ := Aside0.mk (below_step (by repeat (first | (with_reducible first | exact HB.out | apply below_alloc | apply pw_below_drewN | apply below_drew1 | refine below_set ?_ GE219.out) | exact HB.out)) hb); clear BK219; clear HB; have BK219 := n0_; have HB := n1_; clear n0_ n1_; (try clear hb); (try clear hb2); (try clear hk); (try clear hi); have hcz16_0 : w15.cell? ⟨gb219, 0, none⟩ = some (.int .i64 a0_0) := (blk_cell BK219.out 0).trans rfl; have hcz16_1 : w15.cell? ⟨gb219, 1, none⟩ = some (.int .i64 a0_1) := (blk_cell BK219.out 1).trans rfl; have hcz16_2 : w15.cell? ⟨gb219, 2, none⟩ = some (.int .i64 a0_2) := (blk_cell BK219.out 2).trans rfl; have hcz16_3 : w15.cell? ⟨gb219, 3, none⟩ = some (.int .i64 a0_3) := (blk_cell BK219.out 3).trans rfl; have hfz16_0 := blk_frozen BK219.out 0; have hfz16_1 := blk_frozen BK219.out 1; have hfz16_2 := blk_frozen BK219.out 2; have hfz16_3 := blk_frozen BK219.out 3))
          go_meet
          case rel => exact ⟨_, (true), (by first | rfl | (simp; done) | (simp [*]; done)), H', ⟨by first | omega | exact Nat.le_refl _⟩, ⟨by (with_reducible repeat (first | refine blk_drewN ?_ _ | refine blk_drew ?_ | refine blk_alloc ?_ _)); exact BK219.out⟩, ⟨by repeat (first | (with_reducible first | exact HB.out | apply below_alloc | apply pw_below_drewN | apply below_drew1 | refine below_set ?_ GE219.out) | exact HB.out)⟩⟩
        · rw [if_neg c13] at H
          have c13b0 : decide (20 < a0_2) = false := decide_eq_false c13
          clear c13
          by_cases c17 : a0_1 > 20
          · rw [if_pos c17] at H
            have c17b0 : decide (20 < a0_1) = true := decide_eq_true c17
            clear c17
            have H' := Aside0.mk H
            clear H
            have hcz18_0 : w7.cell? ⟨gb219, 0, none⟩ = some (.int .i64 a0_0) := (blk_cell BK219.out 0).trans rfl
            have hcz18_1 : w7.cell? ⟨gb219, 1, none⟩ = some (.int .i64 a0_1) := (blk_cell BK219.out 1).trans rfl
            have hcz18_2 : w7.cell? ⟨gb219, 2, none⟩ = some (.int .i64 a0_2) := (blk_cell BK219.out 2).trans rfl
            have hcz18_3 : w7.cell? ⟨gb219, 3, none⟩ = some (.int .i64 a0_3) := (blk_cell BK219.out 3).trans rfl
            have hfz18_0 := blk_frozen BK219.out 0
            have hfz18_1 := blk_frozen BK219.out 1
            have hfz18_2 := blk_frozen BK219.out 2
            have hfz18_3 := blk_frozen BK219.out 3
            go_wp2_with (first | ((with_reducible refine gate_callee (f := 13) rfl ?_); refine goesL_ (some 17) rfl rfl Try.func13 (by kernel_rfl) rfl #[.agg #[.int .i64 a0_0, .int .i64 a0_1, .int .i64 a0_2, .int .i64 a0_3]] rfl (by (try simp only [List.map_toArray, List.map_cons, List.map_nil]); first | done | rfl | (simp only [List.length_drop, List.length_take]; rfl)) ?_; (with_reducible refine (stolonref10_May.calls a0_0 a0_1 a0_2 a0_3 true _ A8.out).mono ?_); rintro e w19 ⟨rfl, hb⟩; refine ⟨_, rfl, ?_⟩; have n0_ := Aside0.mk (blk_below (g := gb219) (o := .cells #[.int .i64 a0_0, .int .i64 a0_1, .int .i64 a0_2, .int .i64 a0_3] 23 (0, 0)) (by (with_reducible repeat (first | refine blk_drewN ?_ _ | refine blk_drew ?_ | refine blk_alloc ?_ _)); exact BK219.out) hb); have n1_ := Aside0.mk (below_step (by repeat (first | (with_reducible first | exact HB.out | apply below_alloc | apply pw_below_drewN | apply below_drew1 | refine below_set ?_ GE219.out) | exact HB.out)) hb); clear BK219; clear HB; have BK219 := n0_; have HB := n1_; clear n0_ n1_; (try clear hb); (try clear hb2); (try clear hk); (try clear hi); have hcz20_0 : w19.cell? ⟨gb219, 0, none⟩ = some (.int .i64 a0_0) := (blk_cell BK219.out 0).trans rfl; have hcz20_1 : w19.cell? ⟨gb219, 1, none⟩ = some (.int .i64 a0_1) := (blk_cell BK219.out 1).trans rfl; have hcz20_2 : w19.cell? ⟨gb219, 2, none⟩ = some (.int .i64 a0_2) := (blk_cell BK219.out 2).trans rfl; have hcz20_3 : w19.cell? ⟨gb219, 3, none⟩ = some (.int .i64 a0_3) := (blk_cell BK219.out 3).trans rfl; have hfz20_0 := blk_frozen BK219.out 0; have hfz20_1 := blk_frozen BK219.out 1; have hfz20_2 := blk_frozen BK219.out 2; have hfz20_3 := blk_frozen BK219.out 3))
            go_meet
            case rel => exact ⟨_, (true), (by first | rfl | (simp; done) | (simp [*]; done)), H', ⟨by first | omega | exact Nat.le_refl _⟩, ⟨by (with_reducible repeat (first | refine blk_drewN ?_ _ | refine blk_drew ?_ | refine blk_alloc ?_ _)); exact BK219.out⟩, ⟨by repeat (first | (with_reducible first | exact HB.out | apply below_alloc | apply pw_below_drewN | apply below_drew1 | refine below_set ?_ GE219.out) | exact HB.out)⟩⟩
          · rw [if_neg c17] at H
            have c17b0 : decide (20 < a0_1) = false := decide_eq_false c17
            clear c17
            have H' := Aside0.mk H
            clear H
            have hcz21_0 : w7.cell? ⟨gb219, 0, none⟩ = some (.int .i64 a0_0) := (blk_cell BK219.out 0).trans rfl
            have hcz21_1 : w7.cell? ⟨gb219, 1, none⟩ = some (.int .i64 a0_1) := (blk_cell BK219.out 1).trans rfl
            have hcz21_2 : w7.cell? ⟨gb219, 2, none⟩ = some (.int .i64 a0_2) := (blk_cell BK219.out 2).trans rfl
            have hcz21_3 : w7.cell? ⟨gb219, 3, none⟩ = some (.int .i64 a0_3) := (blk_cell BK219.out 3).trans rfl
            have hfz21_0 := blk_frozen BK219.out 0
            have hfz21_1 := blk_frozen BK219.out 1
            have hfz21_2 := blk_frozen BK219.out 2
            have hfz21_3 := blk_frozen BK219.out 3
            go_wp2_with (first | ((with_reducible refine gate_callee (f := 13) rfl ?_); refine goesL_ (some 17) rfl rfl Try.func13 (by kernel_rfl) rfl #[.agg #[.int .i64 a0_0, .int .i64 a0_1, .int .i64 a0_2, .int .i64 a0_3]] rfl (by (try simp only [List.map_toArray, List.map_cons, List.map_nil]); first | done | rfl | (simp only [List.length_drop, List.length_take]; rfl)) ?_; (with_reducible refine (stolonref10_May.calls a0_0 a0_1 a0_2 a0_3 true _ A8.out).mono ?_); rintro e w22 ⟨rfl, hb⟩; refine ⟨_, rfl, ?_⟩; have n0_ := Aside0.mk (blk_below (g := gb219) (o := .cells #[.int .i64 a0_0, .int .i64 a0_1, .int .i64 a0_2, .int .i64 a0_3] 23 (0, 0)) (by (with_reducible repeat (first | refine blk_drewN ?_ _ | refine blk_drew ?_ | refine blk_alloc ?_ _)); exact BK219.out) hb); have n1_ := Aside0.mk (below_step (by repeat (first | (with_reducible first | exact HB.out | apply below_alloc | apply pw_below_drewN | apply below_drew1 | refine below_set ?_ GE219.out) | exact HB.out)) hb); clear BK219; clear HB; have BK219 := n0_; have HB := n1_; clear n0_ n1_; (try clear hb); (try clear hb2); (try clear hk); (try clear hi); have hcz23_0 : w22.cell? ⟨gb219, 0, none⟩ = some (.int .i64 a0_0) := (blk_cell BK219.out 0).trans rfl; have hcz23_1 : w22.cell? ⟨gb219, 1, none⟩ = some (.int .i64 a0_1) := (blk_cell BK219.out 1).trans rfl; have hcz23_2 : w22.cell? ⟨gb219, 2, none⟩ = some (.int .i64 a0_2) := (blk_cell BK219.out 2).trans rfl; have hcz23_3 : w22.cell? ⟨gb219, 3, none⟩ = some (.int .i64 a0_3) := (blk_cell BK219.out 3).trans rfl; have hfz23_0 := blk_frozen BK219.out 0; have hfz23_1 := blk_frozen BK219.out 1; have hfz23_2 := blk_frozen BK219.out 2; have hfz23_3 := blk_frozen BK219.out 3))
            go_meet
            case rel => exact ⟨_, (decide (a0_0 > 100)), (by first | rfl | (simp; done) | (simp [*]; done)), H', ⟨by first | omega | exact Nat.le_refl _⟩, ⟨by (with_reducible repeat (first | refine blk_drewN ?_ _ | refine blk_drew ?_ | refine blk_alloc ?_ _)); exact BK219.out⟩, ⟨by repeat (first | (with_reducible first | exact HB.out | apply below_alloc | apply pw_below_drewN | apply below_drew1 | refine below_set ?_ GE219.out) | exact HB.out)⟩⟩
    · replace c9 := Bool.eq_false_iff.mpr c9
      subst c9
      have H1 : (stolonlaw10_QuerierTurns.j0 k a1 a2 t220 true a0_0 a0_1 a0_2 a0_3) = some r := by rw [if_neg (show ¬ (false = true) by decide)] at H; exact H
      clear H
      have H := H1
      clear H1
      have H' := Aside0.mk H
      clear H
      have hcz24_0 : w7.cell? ⟨gb219, 0, none⟩ = some (.int .i64 a0_0) := (blk_cell BK219.out 0).trans rfl
      have hcz24_1 : w7.cell? ⟨gb219, 1, none⟩ = some (.int .i64 a0_1) := (blk_cell BK219.out 1).trans rfl
      have hcz24_2 : w7.cell? ⟨gb219, 2, none⟩ = some (.int .i64 a0_2) := (blk_cell BK219.out 2).trans rfl
      have hcz24_3 : w7.cell? ⟨gb219, 3, none⟩ = some (.int .i64 a0_3) := (blk_cell BK219.out 3).trans rfl
      have hfz24_0 := blk_frozen BK219.out 0
      have hfz24_1 := blk_frozen BK219.out 1
      have hfz24_2 := blk_frozen BK219.out 2
      have hfz24_3 := blk_frozen BK219.out 3
      go_wp2_with (first | ((with_reducible refine gate_callee (f := 13) rfl ?_); refine goesL_ (some 17) rfl rfl Try.func13 (by kernel_rfl) rfl #[.agg #[.int .i64 a0_0, .int .i64 a0_1, .int .i64 a0_2, .int .i64 a0_3]] rfl (by (try simp only [List.map_toArray, List.map_cons, List.map_nil]); first | done | rfl | (simp only [List.length_drop, List.length_take]; rfl)) ?_; (with_reducible refine (stolonref10_May.calls a0_0 a0_1 a0_2 a0_3 false _ A8.out).mono ?_); rintro e w25 ⟨rfl, hb⟩; refine ⟨_, rfl, ?_⟩; have n0_ := Aside0.mk (blk_below (g := gb219) (o := .cells #[.int .i64 a0_0, .int .i64 a0_1, .int .i64 a0_2, .int .i64 a0_3] 23 (0, 0)) (by (with_reducible repeat (first | refine blk_drewN ?_ _ | refine blk_drew ?_ | refine blk_alloc ?_ _)); exact BK219.out) hb); have n1_ := Aside0.mk (below_step (by repeat (first | (with_reducible first | exact HB.out | apply below_alloc | apply pw_below_drewN | apply below_drew1 | refine below_set ?_ GE219.out) | exact HB.out)) hb); clear BK219; clear HB; have BK219 := n0_; have HB := n1_; clear n0_ n1_; (try clear hb); (try clear hb2); (try clear hk); (try clear hi)))
      go_meet
      case rel => exact ⟨_, (true), (by first | rfl | (simp; done) | (simp [*]; done)), H', ⟨by first | omega | exact Nat.le_refl _⟩, ⟨by (with_reducible repeat (first | refine blk_drewN ?_ _ | refine blk_drew ?_ | refine blk_alloc ?_ _)); exact BK219.out⟩, ⟨by repeat (first | (with_reducible first | exact HB.out | apply below_alloc | apply pw_below_drewN | apply below_drew1 | refine below_set ?_ GE219.out) | exact HB.out)⟩⟩
  case rest =>
    clear HC5
    try clear c1
    try clear p2
    try clear c5
    try clear c9
    try clear c10
    try clear c10b0
    try clear c10b1
    try clear c13
    try clear c13b0
    try clear c17
    try clear c17b0
    try clear hcz11_0
    try clear hcz11_1
    try clear hcz11_2
    try clear hcz11_3
    try clear hcz14_0
    try clear hcz14_1
    try clear hcz14_2
    try clear hcz14_3
    try clear hcz16_0
    try clear hcz16_1
    try clear hcz16_2
    try clear hcz16_3
    try clear hcz18_0
    try clear hcz18_1
    try clear hcz18_2
    try clear hcz18_3
    try clear hcz20_0
    try clear hcz20_1
    try clear hcz20_2
    try clear hcz20_3
    try clear hcz21_0
    try clear hcz21_1
    try clear hcz21_2
    try clear hcz21_3
    try clear hcz23_0
    try clear hcz23_1
    try clear hcz23_2
    try clear hcz23_3
    try clear hcz24_0
    try clear hcz24_1
    try clear hcz24_2
    try clear hcz24_3
    try clear hfz11_0
    try clear hfz11_1
    try clear hfz11_2
    try clear hfz11_3
    try clear hfz14_0
    try clear hfz14_1
    try clear hfz14_2
    try clear hfz14_3
    try clear hfz16_0
    try clear hfz16_1
    try clear hfz16_2
    try clear hfz16_3
    try clear hfz18_0
    try clear hfz18_1
    try clear hfz18_2
    try clear hfz18_3
    try clear hfz20_0
    try clear hfz20_1
    try clear hfz20_2
    try clear hfz20_3
    try clear hfz21_0
    try clear hfz21_1
    try clear hfz21_2
    try clear hfz21_3
    try clear hfz23_0
    try clear hfz23_1
    try clear hfz23_2
    try clear hfz23_3
    try clear hfz24_0
    try clear hfz24_1
    try clear hfz24_2
    try clear hfz24_3
    obtain ⟨kq, x37_4, rfl, HA, HJ4, BK219, HB⟩ := hcut
    cases kq with
    | zero => exact absurd HA.out (by simp [stolonlaw10_QuerierTurns.j0])
    | succ kj4 =>
      have H := HA.out
      clear HA
      simp only [stolonlaw10_QuerierTurns.j0] at H
      by_cases c26 : x37_4 = true
      · subst c26
        have H1 : (some t220) = some r := by rw [if_pos rfl] at H; exact H
        clear H
        have H := H1
        clear H1
        obtain rfl := Option.some.inj H
        go_wp2
        go_ret
        exact ⟨by first | rfl | (simp [errW_none, errW_some] <;> rfl) | (simp [*, errW_none, errW_some] <;> rfl), by repeat (first | (with_reducible first | exact HB.out | apply below_alloc | apply pw_below_drewN | apply below_drew1 | refine below_set ?_ GE219.out) | exact HB.out)⟩
      · replace c26 := Bool.eq_false_iff.mpr c26
        subst c26
        have H1 : ((querier_New.f a0_0 a0_1 a0_2 a0_3 a1).bind fun bt222 => (if bt222.2.2.2.2.2 = 0 then (stolonlaw10_QuerierTurns.l0 kj4 a2 t220 0 0 0 a0_0 a0_1 a0_2 a0_3 bt222.1 bt222.2.1 bt222.2.2.1 bt222.2.2.2.1 bt222.2.2.2.2.1) else (some false))) = some r := by rw [if_neg (show ¬ (false = true) by decide)] at H; exact H
        clear H
        have H := H1
        clear H1
        replace H := Option.bind_eq_some_iff.mp H
        obtain ⟨⟨t222, t223, t224, t225, t226, t227⟩, A270, H⟩ := H
        replace H : (if t227 = 0 then (stolonlaw10_QuerierTurns.l0 kj4 a2 t220 0 0 0 a0_0 a0_1 a0_2 a0_3 t222 t223 t224 t225 t226) else (some false)) = some r := H
        have A27 := Aside0.mk A270
        clear A270
        by_cases c28 : t227 = 0
        · rw [if_pos c28] at H
          have c28b0 : (t227 == 0) = true := beq_iff_eq.mpr c28
          have c28b1 : (t227 != 0) = false := bne_eq_false_iff_eq.mpr c28
          clear c28
          have H' := Aside0.mk H
          clear H
          have hcz29_0 : wc.cell? ⟨gb219, 0, none⟩ = some (.int .i64 a0_0) := (blk_cell BK219.out 0).trans rfl
          have hcz29_1 : wc.cell? ⟨gb219, 1, none⟩ = some (.int .i64 a0_1) := (blk_cell BK219.out 1).trans rfl
          have hcz29_2 : wc.cell? ⟨gb219, 2, none⟩ = some (.int .i64 a0_2) := (blk_cell BK219.out 2).trans rfl
          have hcz29_3 : wc.cell? ⟨gb219, 3, none⟩ = some (.int .i64 a0_3) := (blk_cell BK219.out 3).trans rfl
          have hfz29_0 := blk_frozen BK219.out 0
          have hfz29_1 := blk_frozen BK219.out 1
          have hfz29_2 := blk_frozen BK219.out 2
          have hfz29_3 := blk_frozen BK219.out 3
          go_wp2_with (first | ((with_reducible refine gate_callee (f := 10) rfl ?_); refine goesL_ (some 42) rfl rfl Try.func10 (by kernel_rfl) rfl #[.agg #[.int .i64 a0_0, .int .i64 a0_1, .int .i64 a0_2, .int .i64 a0_3], .int .u32 a1] rfl (by (try simp only [List.map_toArray, List.map_cons, List.map_nil]); first | done | rfl | (simp only [List.length_drop, List.length_take]; rfl)) ?_; (with_reducible refine (querier_New.calls a0_0 a0_1 a0_2 a0_3 a1 t222 t223 t224 t225 t226 t227 _ A27.out).mono ?_); rintro e w30 ⟨rfl, hb⟩; refine ⟨_, rfl, ?_⟩; have n0_ := Aside0.mk (blk_below (g := gb219) (o := .cells #[.int .i64 a0_0, .int .i64 a0_1, .int .i64 a0_2, .int .i64 a0_3] 23 (0, 0)) (by (with_reducible repeat (first | refine blk_drewN ?_ _ | refine blk_drew ?_ | refine blk_alloc ?_ _)); exact BK219.out) hb); have n1_ := Aside0.mk (below_step (by repeat (first | (with_reducible first | exact HB.out | apply below_alloc | apply pw_below_drewN | apply below_drew1 | refine below_set ?_ GE219.out) | exact HB.out)) hb); clear BK219; clear HB; have BK219 := n0_; have HB := n1_; clear n0_ n1_; (try clear hb); (try clear hb2); (try clear hk); (try clear hi)) | ((with_reducible refine gate_dst (N := 8) rfl ?_); refine box_event ?hg (N := 8) ?hd (cs := #[.int .u32 0, .int .u32 0, .int .i64 0, .int .i64 0, .int .i64 0]) (t := 27) ?hr ?_; (case hd => rfl); (case hg => rfl); (case hr => first | (go_simp; done) | (go_simp; rfl)); intro gb228 hg w31 hbox hb; have n0_ := Aside0.mk (blk_below (g := gb219) (o := .cells #[.int .i64 a0_0, .int .i64 a0_1, .int .i64 a0_2, .int .i64 a0_3] 23 (0, 0)) (by (with_reducible repeat (first | refine blk_drewN ?_ _ | refine blk_drew ?_ | refine blk_alloc ?_ _)); exact BK219.out) hb); have n1_ := Aside0.mk (below_step (by repeat (first | (with_reducible first | exact HB.out | apply below_alloc | apply pw_below_drewN | apply below_drew1 | refine below_set ?_ GE219.out) | exact HB.out)) hb); have n2_ := Aside0.mk (hbox); have n3_ := Aside0.mk ((by rw [hg]; exact (below_size (by repeat (first | (with_reducible first | exact HB.out | apply below_alloc | apply pw_below_drewN | apply below_drew1 | refine below_set ?_ GE219.out) | exact HB.out))) : w.heap.size ≤ gb228)); have n4_ := Aside0.mk ((by rw [hg]; exact (below_size (by repeat (first | (with_reducible first | exact HB.out | apply below_alloc | apply pw_below_drewN | apply below_drew1 | refine below_set ?_ GE219.out) | exact HB.out))) : w.heap.size ≤ gb228)); have n5_ := Aside0.mk ((by rw [hg]; exact Nat.ne_of_lt (blk_lt (g := gb219) (o := .cells #[.int .i64 a0_0, .int .i64 a0_1, .int .i64 a0_2, .int .i64 a0_3] 23 (0, 0)) (by (with_reducible repeat (first | refine blk_drewN ?_ _ | refine blk_drew ?_ | refine blk_alloc ?_ _)); exact BK219.out)) : gb219 ≠ gb228)); have n6_ := Aside0.mk ((by rw [hg]; exact Nat.ne_of_gt (blk_lt (g := gb219) (o := .cells #[.int .i64 a0_0, .int .i64 a0_1, .int .i64 a0_2, .int .i64 a0_3] 23 (0, 0)) (by (with_reducible repeat (first | refine blk_drewN ?_ _ | refine blk_drew ?_ | refine blk_alloc ?_ _)); exact BK219.out)) : gb228 ≠ gb219)); clear BK219; clear HB; have BK219 := n0_; have HB := n1_; have BK228 := n2_; have GW228 := n3_; have GE228 := n4_; have NB219_228 := n5_; have NB228_219 := n6_; clear n0_ n1_ n2_ n3_ n4_ n5_ n6_; clear hb hbox hg; have hnb32 := NB228_219.out; have hnc32 := NB219_228.out; have hcz33_0 : w31.cell? ⟨gb228, 0, none⟩ = some (.int .u32 0) := (blk_cell BK228.out 0).trans rfl; have hcz33_1 : w31.cell? ⟨gb228, 1, none⟩ = some (.int .u32 0) := (blk_cell BK228.out 1).trans rfl; have hcz33_2 : w31.cell? ⟨gb228, 2, none⟩ = some (.int .i64 0) := (blk_cell BK228.out 2).trans rfl; have hcz33_3 : w31.cell? ⟨gb228, 3, none⟩ = some (.int .i64 0) := (blk_cell BK228.out 3).trans rfl; have hcz33_4 : w31.cell? ⟨gb228, 4, none⟩ = some (.int .i64 0) := (blk_cell BK228.out 4).trans rfl; have hfz33_0 := blk_frozen BK228.out 0; have hfz33_1 := blk_frozen BK228.out 1; have hfz33_2 := blk_frozen BK228.out 2; have hfz33_3 := blk_frozen BK228.out 3; have hfz33_4 := blk_frozen BK228.out 4))
          go_loopg [10, 11, 12] kj4 (fun kq v10 v11 v12 w' => ∃ (x10_2 : Int) (x11_2 : Int) (x12_2 : Int) (x229000_2 : Int) (x229001_2 : Int) (x229002_2 : Int) (x229003_2 : Int) (x229004_2 : Int), v10 = .int .i64 x10_2 ∧ v11 = .int .i64 x11_2 ∧ v12 = .int .i64 x12_2 ∧ Aside0 (stolonlaw10_QuerierTurns.l0 kq a2 t220 x10_2 x11_2 x12_2 a0_0 a0_1 a0_2 a0_3 x229000_2 x229001_2 x229002_2 x229003_2 x229004_2 = some r) ∧ Aside0 (kq ≤ kj4) ∧ Aside0 (w'.heap[gb219]? = some (.cells #[.int .i64 a0_0, .int .i64 a0_1, .int .i64 a0_2, .int .i64 a0_3] 23 (0, 0))) ∧ Aside0 (w'.heap[gb228]? = some (.cells #[.int .u32 x229000_2, .int .u32 x229001_2, .int .i64 x229002_2, .int .i64 x229003_2, .int .i64 x229004_2] 27 (0, 0))) ∧ Aside0 (Below w.heap.size w w'))
          case atStart => exact ⟨(0), (0), (0), (t222), (t223), (t224), (t225), (t226), (by first | rfl | (simp; done) | (simp [*]; done)), (by first | rfl | (simp; done) | (simp [*]; done)), (by first | rfl | (simp; done) | (simp [*]; done)), H', ⟨Nat.le_refl _⟩, ⟨by (with_reducible repeat (first | refine blk_drewN ?_ _ | refine blk_drew ?_ | refine blk_alloc ?_ _)); refine blk_far ?_ NB219_228.out _; (with_reducible repeat (first | refine blk_drewN ?_ _ | refine blk_drew ?_ | refine blk_alloc ?_ _)); refine blk_far ?_ NB219_228.out _; (with_reducible repeat (first | refine blk_drewN ?_ _ | refine blk_drew ?_ | refine blk_alloc ?_ _)); refine blk_far ?_ NB219_228.out _; (with_reducible repeat (first | refine blk_drewN ?_ _ | refine blk_drew ?_ | refine blk_alloc ?_ _)); refine blk_far ?_ NB219_228.out _; (with_reducible repeat (first | refine blk_drewN ?_ _ | refine blk_drew ?_ | refine blk_alloc ?_ _)); refine blk_far ?_ NB219_228.out _; (with_reducible repeat (first | refine blk_drewN ?_ _ | refine blk_drew ?_ | refine blk_alloc ?_ _)); exact BK219.out⟩, ⟨by (with_reducible repeat (first | refine blk_drewN ?_ _ | refine blk_drew ?_ | refine blk_alloc ?_ _)); refine blk_put (cs := #[.int .u32 t222, .int .u32 t223, .int .i64 t224, .int .i64 t225, .int .i64 0]) ?_ 4 _ rfl; (with_reducible repeat (first | refine blk_drewN ?_ _ | refine blk_drew ?_ | refine blk_alloc ?_ _)); refine blk_put (cs := #[.int .u32 t222, .int .u32 t223, .int .i64 t224, .int .i64 0, .int .i64 0]) ?_ 3 _ rfl; (with_reducible repeat (first | refine blk_drewN ?_ _ | refine blk_drew ?_ | refine blk_alloc ?_ _)); refine blk_put (cs := #[.int .u32 t222, .int .u32 t223, .int .i64 0, .int .i64 0, .int .i64 0]) ?_ 2 _ rfl; (with_reducible repeat (first | refine blk_drewN ?_ _ | refine blk_drew ?_ | refine blk_alloc ?_ _)); refine blk_put (cs := #[.int .u32 t222, .int .u32 0, .int .i64 0, .int .i64 0, .int .i64 0]) ?_ 1 _ rfl; (with_reducible repeat (first | refine blk_drewN ?_ _ | refine blk_drew ?_ | refine blk_alloc ?_ _)); refine blk_put (cs := #[.int .u32 0, .int .u32 0, .int .i64 0, .int .i64 0, .int .i64 0]) ?_ 0 _ rfl; (with_reducible repeat (first | refine blk_drewN ?_ _ | refine blk_drew ?_ | refine blk_alloc ?_ _)); exact BK228.out⟩, ⟨by repeat (first | (with_reducible first | exact HB.out | apply below_alloc | apply pw_below_drewN | apply below_drew1 | refine below_set ?_ GE219.out | refine below_set ?_ GE228.out) | exact HB.out)⟩⟩
          case round =>
            clear H'
            try clear c1
            try clear c2
            try clear p2
            try clear c3
            try clear c5
            try clear c9
            try clear c10
            try clear c10b0
            try clear c10b1
            try clear c13
            try clear c13b0
            try clear c17
            try clear c17b0
            try clear c26
            try clear c28
            try clear c28b0
            try clear c28b1
            try clear c32
            try clear hcz11_0
            try clear hcz11_1
            try clear hcz11_2
            try clear hcz11_3
            try clear hcz14_0
            try clear hcz14_1
            try clear hcz14_2
            try clear hcz14_3
            try clear hcz16_0
            try clear hcz16_1
            try clear hcz16_2
            try clear hcz16_3
            try clear hcz18_0
            try clear hcz18_1
            try clear hcz18_2
            try clear hcz18_3
            try clear hcz20_0
            try clear hcz20_1
            try clear hcz20_2
            try clear hcz20_3
            try clear hcz21_0
            try clear hcz21_1
            try clear hcz21_2
            try clear hcz21_3
            try clear hcz23_0
            try clear hcz23_1
            try clear hcz23_2
            try clear hcz23_3
            try clear hcz24_0
            try clear hcz24_1
            try clear hcz24_2
            try clear hcz24_3
            try clear hcz29_0
            try clear hcz29_1
            try clear hcz29_2
            try clear hcz29_3
            try clear hcz33_0
            try clear hcz33_1
            try clear hcz33_2
            try clear hcz33_3
            try clear hcz33_4
            try clear hfz11_0
            try clear hfz11_1
            try clear hfz11_2
            try clear hfz11_3
            try clear hfz14_0
            try clear hfz14_1
            try clear hfz14_2
            try clear hfz14_3
            try clear hfz16_0
            try clear hfz16_1
            try clear hfz16_2
            try clear hfz16_3
            try clear hfz18_0
            try clear hfz18_1
            try clear hfz18_2
            try clear hfz18_3
            try clear hfz20_0
            try clear hfz20_1
            try clear hfz20_2
            try clear hfz20_3
            try clear hfz21_0
            try clear hfz21_1
            try clear hfz21_2
            try clear hfz21_3
            try clear hfz23_0
            try clear hfz23_1
            try clear hfz23_2
            try clear hfz23_3
            try clear hfz24_0
            try clear hfz24_1
            try clear hfz24_2
            try clear hfz24_3
            try clear hfz29_0
            try clear hfz29_1
            try clear hfz29_2
            try clear hfz29_3
            try clear hfz33_0
            try clear hfz33_1
            try clear hfz33_2
            try clear hfz33_3
            try clear hfz33_4
            try clear p2
            obtain ⟨x10_2, x11_2, x12_2, x229000_2, x229001_2, x229002_2, x229003_2, x229004_2, rfl, rfl, rfl, HA, HK2, BK219, BK228, HB⟩ := hrel
            cases gk with
            | zero => exact absurd HA.out (by simp [stolonlaw10_QuerierTurns.l0])
            | succ k2 =>
              have H := HA.out
              clear HA
              simp only [stolonlaw10_QuerierTurns.l0] at H
              by_cases c34 : x12_2 ≤ (wrap64 (a2))
              · rw [if_pos c34] at H
                have c34b0 : decide (x12_2 ≤ (wrap64 (a2))) = true := decide_eq_true c34
                clear c34
                replace H := Option.bind_eq_some_iff.mp H
                obtain ⟨⟨t229, t230, t231, t232, t233, t234⟩, A350, H⟩ := H
                replace H : (if (t234 != (x12_2 == x10_2)) = true then (some false) else (if t234 = true then (if (wrap64 (x11_2 + 1)) < a0_2 then (stolonlaw10_QuerierTurns.l0 k2 a2 t220 (wrap64 (x12_2 + a0_1)) (wrap64 (x11_2 + 1)) (wrap64 (x12_2 + 1)) a0_0 a0_1 a0_2 a0_3 t229 t230 t231 t232 t233) else (stolonlaw10_QuerierTurns.l0 k2 a2 t220 (wrap64 (x12_2 + a0_0)) (wrap64 (x11_2 + 1)) (wrap64 (x12_2 + 1)) a0_0 a0_1 a0_2 a0_3 t229 t230 t231 t232 t233)) else (stolonlaw10_QuerierTurns.l0 k2 a2 t220 x10_2 x11_2 (wrap64 (x12_2 + 1)) a0_0 a0_1 a0_2 a0_3 t229 t230 t231 t232 t233))) = some r := H
                have A35 := Aside0.mk A350
                clear A350
                by_cases c36 : (t234 != (x12_2 == x10_2)) = true
                · rw [if_pos c36] at H
                  have c36b0 : (t234 != (x12_2 == x10_2)) = true := c36
                  (try (have c36b1 : decide (t234 = (x12_2 == x10_2)) = false := by simpa using c36))
                  (try (have c36b2 : (t234 == (x12_2 == x10_2)) = false := by simpa using c36))
                  (try (have c36b3 : ¬ (t234 = (x12_2 == x10_2)) := by simpa using c36))
                  clear c36
                  exact absurd ((Option.some.inj H).trans hTrue.out) (by simp)
                · rw [if_neg c36] at H
                  have c36b0 : (t234 != (x12_2 == x10_2)) = false := by simpa using c36
                  (try (have c36b1 : decide (t234 = (x12_2 == x10_2)) = true := by simpa using c36))
                  (try (have c36b2 : (t234 == (x12_2 == x10_2)) = true := by simpa using c36))
                  clear c36
                  by_cases c37 : t234 = true
                  · subst c37
                    have H1 : (if (wrap64 (x11_2 + 1)) < a0_2 then (stolonlaw10_QuerierTurns.l0 k2 a2 t220 (wrap64 (x12_2 + a0_1)) (wrap64 (x11_2 + 1)) (wrap64 (x12_2 + 1)) a0_0 a0_1 a0_2 a0_3 t229 t230 t231 t232 t233) else (stolonlaw10_QuerierTurns.l0 k2 a2 t220 (wrap64 (x12_2 + a0_0)) (wrap64 (x11_2 + 1)) (wrap64 (x12_2 + 1)) a0_0 a0_1 a0_2 a0_3 t229 t230 t231 t232 t233)) = some r := by rw [if_pos rfl] at H; exact H
                    clear H
                    have H := H1
                    clear H1
                    by_cases c38 : (wrap64 (x11_2 + 1)) < a0_2
                    · rw [if_pos c38] at H
                      have c38b0 : decide ((wrap64 (x11_2 + 1)) < a0_2) = true := decide_eq_true c38
                      clear c38
                      have H' := Aside0.mk H
                      clear H
                      have hnb39 := NB219_228.out
                      have hnc39 := NB228_219.out
                      have hcz40_0 : wr.cell? ⟨gb219, 0, none⟩ = some (.int .i64 a0_0) := (blk_cell BK219.out 0).trans rfl
                      have hcz40_1 : wr.cell? ⟨gb219, 1, none⟩ = some (.int .i64 a0_1) := (blk_cell BK219.out 1).trans rfl
                      have hcz40_2 : wr.cell? ⟨gb219, 2, none⟩ = some (.int .i64 a0_2) := (blk_cell BK219.out 2).trans rfl
                      have hcz40_3 : wr.cell? ⟨gb219, 3, none⟩ = some (.int .i64 a0_3) := (blk_cell BK219.out 3).trans rfl
                      have hfz40_0 := blk_frozen BK219.out 0
                      have hfz40_1 := blk_frozen BK219.out 1
                      have hfz40_2 := blk_frozen BK219.out 2
                      have hfz40_3 := blk_frozen BK219.out 3
                      have hcz41_0 : wr.cell? ⟨gb228, 0, none⟩ = some (.int .u32 x229000_2) := (blk_cell BK228.out 0).trans rfl
                      have hcz41_1 : wr.cell? ⟨gb228, 1, none⟩ = some (.int .u32 x229001_2) := (blk_cell BK228.out 1).trans rfl
                      have hcz41_2 : wr.cell? ⟨gb228, 2, none⟩ = some (.int .i64 x229002_2) := (blk_cell BK228.out 2).trans rfl
                      have hcz41_3 : wr.cell? ⟨gb228, 3, none⟩ = some (.int .i64 x229003_2) := (blk_cell BK228.out 3).trans rfl
                      have hcz41_4 : wr.cell? ⟨gb228, 4, none⟩ = some (.int .i64 x229004_2) := (blk_cell BK228.out 4).trans rfl
                      have hfz41_0 := blk_frozen BK228.out 0
                      have hfz41_1 := blk_frozen BK228.out 1
                      have hfz41_2 := blk_frozen BK228.out 2
                      have hfz41_3 := blk_frozen BK228.out 3
                      have hfz41_4 := blk_frozen BK228.out 4
                      go_wp2_with (first | ((with_reducible refine gate_callee (f := 17) rfl ?_); refine goesL_ (some 56) rfl rfl Try.func17 (by kernel_rfl) rfl #[.agg #[.int .i64 a0_0, .int .i64 a0_1, .int .i64 a0_2, .int .i64 a0_3], .agg #[.int .u32 x229000_2, .int .u32 x229001_2, .int .i64 x229002_2, .int .i64 x229003_2, .int .i64 x229004_2]] rfl (by (try simp only [List.map_toArray, List.map_cons, List.map_nil]); first | done | rfl | (simp only [List.length_drop, List.length_take]; rfl)) ?_; (with_reducible refine (querier_Tick.calls a0_0 a0_1 a0_2 a0_3 x229000_2 x229001_2 x229002_2 x229003_2 x229004_2 t229 t230 t231 t232 t233 true _ A35.out).mono ?_); rintro e w42 ⟨rfl, hb⟩; refine ⟨_, rfl, ?_⟩; have n0_ := Aside0.mk (blk_below (g := gb219) (o := .cells #[.int .i64 a0_0, .int .i64 a0_1, .int .i64 a0_2, .int .i64 a0_3] 23 (0, 0)) (by (with_reducible repeat (first | refine blk_drewN ?_ _ | refine blk_drew ?_ | refine blk_alloc ?_ _)); exact BK219.out) hb); have n1_ := Aside0.mk (blk_below (g := gb228) (o := .cells #[.int .u32 x229000_2, .int .u32 x229001_2, .int .i64 x229002_2, .int .i64 x229003_2, .int .i64 x229004_2] 27 (0, 0)) (by (with_reducible repeat (first | refine blk_drewN ?_ _ | refine blk_drew ?_ | refine blk_alloc ?_ _)); exact BK228.out) hb); have n2_ := Aside0.mk (below_step (by repeat (first | (with_reducible first | exact HB.out | apply below_alloc | apply pw_below_drewN | apply below_drew1 | refine below_set ?_ GE219.out | refine below_set ?_ GE228.out) | exact HB.out)) hb); clear BK219; clear BK228; clear HB; have BK219 := n0_; have BK228 := n1_; have HB := n2_; clear n0_ n1_ n2_; (try clear hb); (try clear hb2); (try clear hk); (try clear hi)) | ((with_reducible refine gate_dst (N := 13) rfl ?_); refine box_event ?hg (N := 13) ?hd (cs := #[.int .u32 0, .int .u32 0, .int .i64 0, .int .i64 0, .int .i64 0]) (t := 27) ?hr ?_; (case hd => rfl); (case hg => rfl); (case hr => first | (go_simp; done) | (go_simp; rfl)); intro gb235 hg w43 hbox hb; have n0_ := Aside0.mk (blk_below (g := gb219) (o := .cells #[.int .i64 a0_0, .int .i64 a0_1, .int .i64 a0_2, .int .i64 a0_3] 23 (0, 0)) (by (with_reducible repeat (first | refine blk_drewN ?_ _ | refine blk_drew ?_ | refine blk_alloc ?_ _)); exact BK219.out) hb); have n1_ := Aside0.mk (blk_below (g := gb228) (o := .cells #[.int .u32 x229000_2, .int .u32 x229001_2, .int .i64 x229002_2, .int .i64 x229003_2, .int .i64 x229004_2] 27 (0, 0)) (by (with_reducible repeat (first | refine blk_drewN ?_ _ | refine blk_drew ?_ | refine blk_alloc ?_ _)); exact BK228.out) hb); have n2_ := Aside0.mk (below_step (by repeat (first | (with_reducible first | exact HB.out | apply below_alloc | apply pw_below_drewN | apply below_drew1 | refine below_set ?_ GE219.out | refine below_set ?_ GE228.out) | exact HB.out)) hb); have n3_ := Aside0.mk (hbox); have n4_ := Aside0.mk ((by rw [hg]; exact (below_size (by repeat (first | (with_reducible first | exact HB.out | apply below_alloc | apply pw_below_drewN | apply below_drew1 | refine below_set ?_ GE219.out | refine below_set ?_ GE228.out) | exact HB.out))) : w.heap.size ≤ gb235)); have n5_ := Aside0.mk ((by rw [hg]; exact (below_size (by repeat (first | (with_reducible first | exact HB.out | apply below_alloc | apply pw_below_drewN | apply below_drew1 | refine below_set ?_ GE219.out | refine below_set ?_ GE228.out) | exact HB.out))) : w.heap.size ≤ gb235)); have n6_ := Aside0.mk ((by rw [hg]; exact Nat.ne_of_lt (blk_lt (g := gb219) (o := .cells #[.int .i64 a0_0, .int .i64 a0_1, .int .i64 a0_2, .int .i64 a0_3] 23 (0, 0)) (by (with_reducible repeat (first | refine blk_drewN ?_ _ | refine blk_drew ?_ | refine blk_alloc ?_ _)); exact BK219.out)) : gb219 ≠ gb235)); have n7_ := Aside0.mk ((by rw [hg]; exact Nat.ne_of_gt (blk_lt (g := gb219) (o := .cells #[.int .i64 a0_0, .int .i64 a0_1, .int .i64 a0_2, .int .i64 a0_3] 23 (0, 0)) (by (with_reducible repeat (first | refine blk_drewN ?_ _ | refine blk_drew ?_ | refine blk_alloc ?_ _)); exact BK219.out)) : gb235 ≠ gb219)); have n8_ := Aside0.mk ((by rw [hg]; exact Nat.ne_of_lt (blk_lt (g := gb228) (o := .cells #[.int .u32 x229000_2, .int .u32 x229001_2, .int .i64 x229002_2, .int .i64 x229003_2, .int .i64 x229004_2] 27 (0, 0)) (by (with_reducible repeat (first | refine blk_drewN ?_ _ | refine blk_drew ?_ | refine blk_alloc ?_ _)); exact BK228.out)) : gb228 ≠ gb235)); have n9_ := Aside0.mk ((by rw [hg]; exact Nat.ne_of_gt (blk_lt (g := gb228) (o := .cells #[.int .u32 x229000_2, .int .u32 x229001_2, .int .i64 x229002_2, .int .i64 x229003_2, .int .i64 x229004_2] 27 (0, 0)) (by (with_reducible repeat (first | refine blk_drewN ?_ _ | refine blk_drew ?_ | refine blk_alloc ?_ _)); exact BK228.out)) : gb235 ≠ gb228)); clear BK219; clear BK228; clear HB; have BK219 := n0_; have BK228 := n1_; have HB := n2_; have BK235 := n3_; have GW235 := n4_; have GE235 := n5_; have NB219_235 := n6_; have NB235_219 := n7_; have NB228_235 := n8_; have NB235_228 := n9_; clear n0_ n1_ n2_ n3_ n4_ n5_ n6_ n7_ n8_ n9_; clear hb hbox hg; have hnb44 := NB235_219.out; have hnc44 := NB219_235.out; have hnb45 := NB235_228.out; have hnc45 := NB228_235.out; have hcz46_0 : w43.cell? ⟨gb235, 0, none⟩ = some (.int .u32 0) := (blk_cell BK235.out 0).trans rfl; have hcz46_1 : w43.cell? ⟨gb235, 1, none⟩ = some (.int .u32 0) := (blk_cell BK235.out 1).trans rfl; have hcz46_2 : w43.cell? ⟨gb235, 2, none⟩ = some (.int .i64 0) := (blk_cell BK235.out 2).trans rfl; have hcz46_3 : w43.cell? ⟨gb235, 3, none⟩ = some (.int .i64 0) := (blk_cell BK235.out 3).trans rfl; have hcz46_4 : w43.cell? ⟨gb235, 4, none⟩ = some (.int .i64 0) := (blk_cell BK235.out 4).trans rfl; have hfz46_0 := blk_frozen BK235.out 0; have hfz46_1 := blk_frozen BK235.out 1; have hfz46_2 := blk_frozen BK235.out 2; have hfz46_3 := blk_frozen BK235.out 3; have hfz46_4 := blk_frozen BK235.out 4; have hcz47_0 : w43.cell? ⟨gb219, 0, none⟩ = some (.int .i64 a0_0) := (blk_cell BK219.out 0).trans rfl; have hcz47_1 : w43.cell? ⟨gb219, 1, none⟩ = some (.int .i64 a0_1) := (blk_cell BK219.out 1).trans rfl; have hcz47_2 : w43.cell? ⟨gb219, 2, none⟩ = some (.int .i64 a0_2) := (blk_cell BK219.out 2).trans rfl; have hcz47_3 : w43.cell? ⟨gb219, 3, none⟩ = some (.int .i64 a0_3) := (blk_cell BK219.out 3).trans rfl; have hfz47_0 := blk_frozen BK219.out 0; have hfz47_1 := blk_frozen BK219.out 1; have hfz47_2 := blk_frozen BK219.out 2; have hfz47_3 := blk_frozen BK219.out 3; have hcz48_0 : w43.cell? ⟨gb228, 0, none⟩ = some (.int .u32 x229000_2) := (blk_cell BK228.out 0).trans rfl; have hcz48_1 : w43.cell? ⟨gb228, 1, none⟩ = some (.int .u32 x229001_2) := (blk_cell BK228.out 1).trans rfl; have hcz48_2 : w43.cell? ⟨gb228, 2, none⟩ = some (.int .i64 x229002_2) := (blk_cell BK228.out 2).trans rfl; have hcz48_3 : w43.cell? ⟨gb228, 3, none⟩ = some (.int .i64 x229003_2) := (blk_cell BK228.out 3).trans rfl; have hcz48_4 : w43.cell? ⟨gb228, 4, none⟩ = some (.int .i64 x229004_2) := (blk_cell BK228.out 4).trans rfl; have hfz48_0 := blk_frozen BK228.out 0; have hfz48_1 := blk_frozen BK228.out 1; have hfz48_2 := blk_frozen BK228.out 2; have hfz48_3 := blk_frozen BK228.out 3; have hfz48_4 := blk_frozen BK228.out 4))
                      go_roundg k2
                      case measure => have := HJ4.out; have := HK2.out; omega
                      case rel => exact ⟨(wrap64 (x12_2 + a0_1)), (wrap64 (x11_2 + 1)), (wrap64 (x12_2 + 1)), (t229), (t230), (t231), (t232), (t233), (by first | rfl | (simp; done) | (simp [*]; done)), (by first | rfl | (simp; done) | (simp [*]; done)), (by first | rfl | (simp; done) | (simp [*]; done)), H', ⟨by have := HJ4.out; have := HK2.out; omega⟩, ⟨by (with_reducible repeat (first | refine blk_drewN ?_ _ | refine blk_drew ?_ | refine blk_alloc ?_ _)); refine blk_far ?_ NB219_228.out _; (with_reducible repeat (first | refine blk_drewN ?_ _ | refine blk_drew ?_ | refine blk_alloc ?_ _)); refine blk_far ?_ NB219_228.out _; (with_reducible repeat (first | refine blk_drewN ?_ _ | refine blk_drew ?_ | refine blk_alloc ?_ _)); refine blk_far ?_ NB219_228.out _; (with_reducible repeat (first | refine blk_drewN ?_ _ | refine blk_drew ?_ | refine blk_alloc ?_ _)); refine blk_far ?_ NB219_228.out _; (with_reducible repeat (first | refine blk_drewN ?_ _ | refine blk_drew ?_ | refine blk_alloc ?_ _)); refine blk_far ?_ NB219_228.out _; (with_reducible repeat (first | refine blk_drewN ?_ _ | refine blk_drew ?_ | refine blk_alloc ?_ _)); refine blk_far ?_ NB219_235.out _; (with_reducible repeat (first | refine blk_drewN ?_ _ | refine blk_drew ?_ | refine blk_alloc ?_ _)); refine blk_far ?_ NB219_235.out _; (with_reducible repeat (first | refine blk_drewN ?_ _ | refine blk_drew ?_ | refine blk_alloc ?_ _)); refine blk_far ?_ NB219_235.out _; (with_reducible repeat (first | refine blk_drewN ?_ _ | refine blk_drew ?_ | refine blk_alloc ?_ _)); refine blk_far ?_ NB219_235.out _; (with_reducible repeat (first | refine blk_drewN ?_ _ | refine blk_drew ?_ | refine blk_alloc ?_ _)); refine blk_far ?_ NB219_235.out _; (with_reducible repeat (first | refine blk_drewN ?_ _ | refine blk_drew ?_ | refine blk_alloc ?_ _)); exact BK219.out⟩, ⟨by (with_reducible repeat (first | refine blk_drewN ?_ _ | refine blk_drew ?_ | refine blk_alloc ?_ _)); refine blk_put (cs := #[.int .u32 t229, .int .u32 t230, .int .i64 t231, .int .i64 t232, .int .i64 x229004_2]) ?_ 4 _ rfl; (with_reducible repeat (first | refine blk_drewN ?_ _ | refine blk_drew ?_ | refine blk_alloc ?_ _)); refine blk_put (cs := #[.int .u32 t229, .int .u32 t230, .int .i64 t231, .int .i64 x229003_2, .int .i64 x229004_2]) ?_ 3 _ rfl; (with_reducible repeat (first | refine blk_drewN ?_ _ | refine blk_drew ?_ | refine blk_alloc ?_ _)); refine blk_put (cs := #[.int .u32 t229, .int .u32 t230, .int .i64 x229002_2, .int .i64 x229003_2, .int .i64 x229004_2]) ?_ 2 _ rfl; (with_reducible repeat (first | refine blk_drewN ?_ _ | refine blk_drew ?_ | refine blk_alloc ?_ _)); refine blk_put (cs := #[.int .u32 t229, .int .u32 x229001_2, .int .i64 x229002_2, .int .i64 x229003_2, .int .i64 x229004_2]) ?_ 1 _ rfl; (with_reducible repeat (first | refine blk_drewN ?_ _ | refine blk_drew ?_ | refine blk_alloc ?_ _)); refine blk_put (cs := #[.int .u32 x229000_2, .int .u32 x229001_2, .int .i64 x229002_2, .int .i64 x229003_2, .int .i64 x229004_2]) ?_ 0 _ rfl; (with_reducible repeat (first | refine blk_drewN ?_ _ | refine blk_drew ?_ | refine blk_alloc ?_ _)); refine blk_far ?_ NB228_235.out _; (with_reducible repeat (first | refine blk_drewN ?_ _ | refine blk_drew ?_ | refine blk_alloc ?_ _)); refine blk_far ?_ NB228_235.out _; (with_reducible repeat (first | refine blk_drewN ?_ _ | refine blk_drew ?_ | refine blk_alloc ?_ _)); refine blk_far ?_ NB228_235.out _; (with_reducible repeat (first | refine blk_drewN ?_ _ | refine blk_drew ?_ | refine blk_alloc ?_ _)); refine blk_far ?_ NB228_235.out _; (with_reducible repeat (first | refine blk_drewN ?_ _ | refine blk_drew ?_ | refine blk_alloc ?_ _)); refine blk_far ?_ NB228_235.out _; (with_reducible repeat (first | refine blk_drewN ?_ _ | refine blk_drew ?_ | refine blk_alloc ?_ _)); exact BK228.out⟩, ⟨by repeat (first | (with_reducible first | exact HB.out | apply below_alloc | apply pw_below_drewN | apply below_drew1 | refine below_set ?_ GE219.out | refine below_set ?_ GE228.out | refine below_set ?_ GE235.out) | exact HB.out)⟩⟩
                    · rw [if_neg c38] at H
                      have c38b0 : decide ((wrap64 (x11_2 + 1)) < a0_2) = false := decide_eq_false c38
                      clear c38
                      have H' := Aside0.mk H
                      clear H
                      have hnb49 := NB219_228.out
                      have hnc49 := NB228_219.out
                      have hcz50_0 : wr.cell? ⟨gb219, 0, none⟩ = some (.int .i64 a0_0) := (blk_cell BK219.out 0).trans rfl
                      have hcz50_1 : wr.cell? ⟨gb219, 1, none⟩ = some (.int .i64 a0_1) := (blk_cell BK219.out 1).trans rfl
                      have hcz50_2 : wr.cell? ⟨gb219, 2, none⟩ = some (.int .i64 a0_2) := (blk_cell BK219.out 2).trans rfl
                      have hcz50_3 : wr.cell? ⟨gb219, 3, none⟩ = some (.int .i64 a0_3) := (blk_cell BK219.out 3).trans rfl
                      have hfz50_0 := blk_frozen BK219.out 0
                      have hfz50_1 := blk_frozen BK219.out 1
                      have hfz50_2 := blk_frozen BK219.out 2
                      have hfz50_3 := blk_frozen BK219.out 3
                      have hcz51_0 : wr.cell? ⟨gb228, 0, none⟩ = some (.int .u32 x229000_2) := (blk_cell BK228.out 0).trans rfl
                      have hcz51_1 : wr.cell? ⟨gb228, 1, none⟩ = some (.int .u32 x229001_2) := (blk_cell BK228.out 1).trans rfl
                      have hcz51_2 : wr.cell? ⟨gb228, 2, none⟩ = some (.int .i64 x229002_2) := (blk_cell BK228.out 2).trans rfl
                      have hcz51_3 : wr.cell? ⟨gb228, 3, none⟩ = some (.int .i64 x229003_2) := (blk_cell BK228.out 3).trans rfl
                      have hcz51_4 : wr.cell? ⟨gb228, 4, none⟩ = some (.int .i64 x229004_2) := (blk_cell BK228.out 4).trans rfl
                      have hfz51_0 := blk_frozen BK228.out 0
                      have hfz51_1 := blk_frozen BK228.out 1
                      have hfz51_2 := blk_frozen BK228.out 2
                      have hfz51_3 := blk_frozen BK228.out 3
                      have hfz51_4 := blk_frozen BK228.out 4
                      go_wp2_with (first | ((with_reducible refine gate_callee (f := 17) rfl ?_); refine goesL_ (some 56) rfl rfl Try.func17 (by kernel_rfl) rfl #[.agg #[.int .i64 a0_0, .int .i64 a0_1, .int .i64 a0_2, .int .i64 a0_3], .agg #[.int .u32 x229000_2, .int .u32 x229001_2, .int .i64 x229002_2, .int .i64 x229003_2, .int .i64 x229004_2]] rfl (by (try simp only [List.map_toArray, List.map_cons, List.map_nil]); first | done | rfl | (simp only [List.length_drop, List.length_take]; rfl)) ?_; (with_reducible refine (querier_Tick.calls a0_0 a0_1 a0_2 a0_3 x229000_2 x229001_2 x229002_2 x229003_2 x229004_2 t229 t230 t231 t232 t233 true _ A35.out).mono ?_); rintro e w52 ⟨rfl, hb⟩; refine ⟨_, rfl, ?_⟩; have n0_ := Aside0.mk (blk_below (g := gb219) (o := .cells #[.int .i64 a0_0, .int .i64 a0_1, .int .i64 a0_2, .int .i64 a0_3] 23 (0, 0)) (by (with_reducible repeat (first | refine blk_drewN ?_ _ | refine blk_drew ?_ | refine blk_alloc ?_ _)); exact BK219.out) hb); have n1_ := Aside0.mk (blk_below (g := gb228) (o := .cells #[.int .u32 x229000_2, .int .u32 x229001_2, .int .i64 x229002_2, .int .i64 x229003_2, .int .i64 x229004_2] 27 (0, 0)) (by (with_reducible repeat (first | refine blk_drewN ?_ _ | refine blk_drew ?_ | refine blk_alloc ?_ _)); exact BK228.out) hb); have n2_ := Aside0.mk (below_step (by repeat (first | (with_reducible first | exact HB.out | apply below_alloc | apply pw_below_drewN | apply below_drew1 | refine below_set ?_ GE219.out | refine below_set ?_ GE228.out) | exact HB.out)) hb); clear BK219; clear BK228; clear HB; have BK219 := n0_; have BK228 := n1_; have HB := n2_; clear n0_ n1_ n2_; (try clear hb); (try clear hb2); (try clear hk); (try clear hi)) | ((with_reducible refine gate_dst (N := 13) rfl ?_); refine box_event ?hg (N := 13) ?hd (cs := #[.int .u32 0, .int .u32 0, .int .i64 0, .int .i64 0, .int .i64 0]) (t := 27) ?hr ?_; (case hd => rfl); (case hg => rfl); (case hr => first | (go_simp; done) | (go_simp; rfl)); intro gb235 hg w53 hbox hb; have n0_ := Aside0.mk (blk_below (g := gb219) (o := .cells #[.int .i64 a0_0, .int .i64 a0_1, .int .i64 a0_2, .int .i64 a0_3] 23 (0, 0)) (by (with_reducible repeat (first | refine blk_drewN ?_ _ | refine blk_drew ?_ | refine blk_alloc ?_ _)); exact BK219.out) hb); have n1_ := Aside0.mk (blk_below (g := gb228) (o := .cells #[.int .u32 x229000_2, .int .u32 x229001_2, .int .i64 x229002_2, .int .i64 x229003_2, .int .i64 x229004_2] 27 (0, 0)) (by (with_reducible repeat (first | refine blk_drewN ?_ _ | refine blk_drew ?_ | refine blk_alloc ?_ _)); exact BK228.out) hb); have n2_ := Aside0.mk (below_step (by repeat (first | (with_reducible first | exact HB.out | apply below_alloc | apply pw_below_drewN | apply below_drew1 | refine below_set ?_ GE219.out | refine below_set ?_ GE228.out) | exact HB.out)) hb); have n3_ := Aside0.mk (hbox); have n4_ := Aside0.mk ((by rw [hg]; exact (below_size (by repeat (first | (with_reducible first | exact HB.out | apply below_alloc | apply pw_below_drewN | apply below_drew1 | refine below_set ?_ GE219.out | refine below_set ?_ GE228.out) | exact HB.out))) : w.heap.size ≤ gb235)); have n5_ := Aside0.mk ((by rw [hg]; exact (below_size (by repeat (first | (with_reducible first | exact HB.out | apply below_alloc | apply pw_below_drewN | apply below_drew1 | refine below_set ?_ GE219.out | refine below_set ?_ GE228.out) | exact HB.out))) : w.heap.size ≤ gb235)); have n6_ := Aside0.mk ((by rw [hg]; exact Nat.ne_of_lt (blk_lt (g := gb219) (o := .cells #[.int .i64 a0_0, .int .i64 a0_1, .int .i64 a0_2, .int .i64 a0_3] 23 (0, 0)) (by (with_reducible repeat (first | refine blk_drewN ?_ _ | refine blk_drew ?_ | refine blk_alloc ?_ _)); exact BK219.out)) : gb219 ≠ gb235)); have n7_ := Aside0.mk ((by rw [hg]; exact Nat.ne_of_gt (blk_lt (g := gb219) (o := .cells #[.int .i64 a0_0, .int .i64 a0_1, .int .i64 a0_2, .int .i64 a0_3] 23 (0, 0)) (by (with_reducible repeat (first | refine blk_drewN ?_ _ | refine blk_drew ?_ | refine blk_alloc ?_ _)); exact BK219.out)) : gb235 ≠ gb219)); have n8_ := Aside0.mk ((by rw [hg]; exact Nat.ne_of_lt (blk_lt (g := gb228) (o := .cells #[.int .u32 x229000_2, .int .u32 x229001_2, .int .i64 x229002_2, .int .i64 x229003_2, .int .i64 x229004_2] 27 (0, 0)) (by (with_reducible repeat (first | refine blk_drewN ?_ _ | refine blk_drew ?_ | refine blk_alloc ?_ _)); exact BK228.out)) : gb228 ≠ gb235)); have n9_ := Aside0.mk ((by rw [hg]; exact Nat.ne_of_gt (blk_lt (g := gb228) (o := .cells #[.int .u32 x229000_2, .int .u32 x229001_2, .int .i64 x229002_2, .int .i64 x229003_2, .int .i64 x229004_2] 27 (0, 0)) (by (with_reducible repeat (first | refine blk_drewN ?_ _ | refine blk_drew ?_ | refine blk_alloc ?_ _)); exact BK228.out)) : gb235 ≠ gb228)); clear BK219; clear BK228; clear HB; have BK219 := n0_; have BK228 := n1_; have HB := n2_; have BK235 := n3_; have GW235 := n4_; have GE235 := n5_; have NB219_235 := n6_; have NB235_219 := n7_; have NB228_235 := n8_; have NB235_228 := n9_; clear n0_ n1_ n2_ n3_ n4_ n5_ n6_ n7_ n8_ n9_; clear hb hbox hg; have hnb54 := NB235_219.out; have hnc54 := NB219_235.out; have hnb55 := NB235_228.out; have hnc55 := NB228_235.out; have hcz56_0 : w53.cell? ⟨gb235, 0, none⟩ = some (.int .u32 0) := (blk_cell BK235.out 0).trans rfl; have hcz56_1 : w53.cell? ⟨gb235, 1, none⟩ = some (.int .u32 0) := (blk_cell BK235.out 1).trans rfl; have hcz56_2 : w53.cell? ⟨gb235, 2, none⟩ = some (.int .i64 0) := (blk_cell BK235.out 2).trans rfl; have hcz56_3 : w53.cell? ⟨gb235, 3, none⟩ = some (.int .i64 0) := (blk_cell BK235.out 3).trans rfl; have hcz56_4 : w53.cell? ⟨gb235, 4, none⟩ = some (.int .i64 0) := (blk_cell BK235.out 4).trans rfl; have hfz56_0 := blk_frozen BK235.out 0; have hfz56_1 := blk_frozen BK235.out 1; have hfz56_2 := blk_frozen BK235.out 2; have hfz56_3 := blk_frozen BK235.out 3; have hfz56_4 := blk_frozen BK235.out 4; have hcz57_0 : w53.cell? ⟨gb219, 0, none⟩ = some (.int .i64 a0_0) := (blk_cell BK219.out 0).trans rfl; have hcz57_1 : w53.cell? ⟨gb219, 1, none⟩ = some (.int .i64 a0_1) := (blk_cell BK219.out 1).trans rfl; have hcz57_2 : w53.cell? ⟨gb219, 2, none⟩ = some (.int .i64 a0_2) := (blk_cell BK219.out 2).trans rfl; have hcz57_3 : w53.cell? ⟨gb219, 3, none⟩ = some (.int .i64 a0_3) := (blk_cell BK219.out 3).trans rfl; have hfz57_0 := blk_frozen BK219.out 0; have hfz57_1 := blk_frozen BK219.out 1; have hfz57_2 := blk_frozen BK219.out 2; have hfz57_3 := blk_frozen BK219.out 3; have hcz58_0 : w53.cell? ⟨gb228, 0, none⟩ = some (.int .u32 x229000_2) := (blk_cell BK228.out 0).trans rfl; have hcz58_1 : w53.cell? ⟨gb228, 1, none⟩ = some (.int .u32 x229001_2) := (blk_cell BK228.out 1).trans rfl; have hcz58_2 : w53.cell? ⟨gb228, 2, none⟩ = some (.int .i64 x229002_2) := (blk_cell BK228.out 2).trans rfl; have hcz58_3 : w53.cell? ⟨gb228, 3, none⟩ = some (.int .i64 x229003_2) := (blk_cell BK228.out 3).trans rfl; have hcz58_4 : w53.cell? ⟨gb228, 4, none⟩ = some (.int .i64 x229004_2) := (blk_cell BK228.out 4).trans rfl; have hfz58_0 := blk_frozen BK228.out 0; have hfz58_1 := blk_frozen BK228.out 1; have hfz58_2 := blk_frozen BK228.out 2; have hfz58_3 := blk_frozen BK228.out 3; have hfz58_4 := blk_frozen BK228.out 4))
                      go_roundg k2
                      case measure => have := HJ4.out; have := HK2.out; omega
                      case rel => exact ⟨(wrap64 (x12_2 + a0_0)), (wrap64 (x11_2 + 1)), (wrap64 (x12_2 + 1)), (t229), (t230), (t231), (t232), (t233), (by first | rfl | (simp; done) | (simp [*]; done)), (by first | rfl | (simp; done) | (simp [*]; done)), (by first | rfl | (simp; done) | (simp [*]; done)), H', ⟨by have := HJ4.out; have := HK2.out; omega⟩, ⟨by (with_reducible repeat (first | refine blk_drewN ?_ _ | refine blk_drew ?_ | refine blk_alloc ?_ _)); refine blk_far ?_ NB219_228.out _; (with_reducible repeat (first | refine blk_drewN ?_ _ | refine blk_drew ?_ | refine blk_alloc ?_ _)); refine blk_far ?_ NB219_228.out _; (with_reducible repeat (first | refine blk_drewN ?_ _ | refine blk_drew ?_ | refine blk_alloc ?_ _)); refine blk_far ?_ NB219_228.out _; (with_reducible repeat (first | refine blk_drewN ?_ _ | refine blk_drew ?_ | refine blk_alloc ?_ _)); refine blk_far ?_ NB219_228.out _; (with_reducible repeat (first | refine blk_drewN ?_ _ | refine blk_drew ?_ | refine blk_alloc ?_ _)); refine blk_far ?_ NB219_228.out _; (with_reducible repeat (first | refine blk_drewN ?_ _ | refine blk_drew ?_ | refine blk_alloc ?_ _)); refine blk_far ?_ NB219_235.out _; (with_reducible repeat (first | refine blk_drewN ?_ _ | refine blk_drew ?_ | refine blk_alloc ?_ _)); refine blk_far ?_ NB219_235.out _; (with_reducible repeat (first | refine blk_drewN ?_ _ | refine blk_drew ?_ | refine blk_alloc ?_ _)); refine blk_far ?_ NB219_235.out _; (with_reducible repeat (first | refine blk_drewN ?_ _ | refine blk_drew ?_ | refine blk_alloc ?_ _)); refine blk_far ?_ NB219_235.out _; (with_reducible repeat (first | refine blk_drewN ?_ _ | refine blk_drew ?_ | refine blk_alloc ?_ _)); refine blk_far ?_ NB219_235.out _; (with_reducible repeat (first | refine blk_drewN ?_ _ | refine blk_drew ?_ | refine blk_alloc ?_ _)); exact BK219.out⟩, ⟨by (with_reducible repeat (first | refine blk_drewN ?_ _ | refine blk_drew ?_ | refine blk_alloc ?_ _)); refine blk_put (cs := #[.int .u32 t229, .int .u32 t230, .int .i64 t231, .int .i64 t232, .int .i64 x229004_2]) ?_ 4 _ rfl; (with_reducible repeat (first | refine blk_drewN ?_ _ | refine blk_drew ?_ | refine blk_alloc ?_ _)); refine blk_put (cs := #[.int .u32 t229, .int .u32 t230, .int .i64 t231, .int .i64 x229003_2, .int .i64 x229004_2]) ?_ 3 _ rfl; (with_reducible repeat (first | refine blk_drewN ?_ _ | refine blk_drew ?_ | refine blk_alloc ?_ _)); refine blk_put (cs := #[.int .u32 t229, .int .u32 t230, .int .i64 x229002_2, .int .i64 x229003_2, .int .i64 x229004_2]) ?_ 2 _ rfl; (with_reducible repeat (first | refine blk_drewN ?_ _ | refine blk_drew ?_ | refine blk_alloc ?_ _)); refine blk_put (cs := #[.int .u32 t229, .int .u32 x229001_2, .int .i64 x229002_2, .int .i64 x229003_2, .int .i64 x229004_2]) ?_ 1 _ rfl; (with_reducible repeat (first | refine blk_drewN ?_ _ | refine blk_drew ?_ | refine blk_alloc ?_ _)); refine blk_put (cs := #[.int .u32 x229000_2, .int .u32 x229001_2, .int .i64 x229002_2, .int .i64 x229003_2, .int .i64 x229004_2]) ?_ 0 _ rfl; (with_reducible repeat (first | refine blk_drewN ?_ _ | refine blk_drew ?_ | refine blk_alloc ?_ _)); refine blk_far ?_ NB228_235.out _; (with_reducible repeat (first | refine blk_drewN ?_ _ | refine blk_drew ?_ | refine blk_alloc ?_ _)); refine blk_far ?_ NB228_235.out _; (with_reducible repeat (first | refine blk_drewN ?_ _ | refine blk_drew ?_ | refine blk_alloc ?_ _)); refine blk_far ?_ NB228_235.out _; (with_reducible repeat (first | refine blk_drewN ?_ _ | refine blk_drew ?_ | refine blk_alloc ?_ _)); refine blk_far ?_ NB228_235.out _; (with_reducible repeat (first | refine blk_drewN ?_ _ | refine blk_drew ?_ | refine blk_alloc ?_ _)); refine blk_far ?_ NB228_235.out _; (with_reducible repeat (first | refine blk_drewN ?_ _ | refine blk_drew ?_ | refine blk_alloc ?_ _)); exact BK228.out⟩, ⟨by repeat (first | (with_reducible first | exact HB.out | apply below_alloc | apply pw_below_drewN | apply below_drew1 | refine below_set ?_ GE219.out | refine below_set ?_ GE228.out | refine below_set ?_ GE235.out) | exact HB.out)⟩⟩
                  · replace c37 := Bool.eq_false_iff.mpr c37
                    subst c37
                    have H1 : (stolonlaw10_QuerierTurns.l0 k2 a2 t220 x10_2 x11_2 (wrap64 (x12_2 + 1)) a0_0 a0_1 a0_2 a0_3 t229 t230 t231 t232 t233) = some r := by rw [if_neg (show ¬ (false = true) by decide)] at H; exact H
                    clear H
                    have H := H1
                    clear H1
                    have H' := Aside0.mk H
                    clear H
                    have hnb59 := NB219_228.out
                    have hnc59 := NB228_219.out
                    have hcz60_0 : wr.cell? ⟨gb219, 0, none⟩ = some (.int .i64 a0_0) := (blk_cell BK219.out 0).trans rfl
                    have hcz60_1 : wr.cell? ⟨gb219, 1, none⟩ = some (.int .i64 a0_1) := (blk_cell BK219.out 1).trans rfl
                    have hcz60_2 : wr.cell? ⟨gb219, 2, none⟩ = some (.int .i64 a0_2) := (blk_cell BK219.out 2).trans rfl
                    have hcz60_3 : wr.cell? ⟨gb219, 3, none⟩ = some (.int .i64 a0_3) := (blk_cell BK219.out 3).trans rfl
                    have hfz60_0 := blk_frozen BK219.out 0
                    have hfz60_1 := blk_frozen BK219.out 1
                    have hfz60_2 := blk_frozen BK219.out 2
                    have hfz60_3 := blk_frozen BK219.out 3
                    have hcz61_0 : wr.cell? ⟨gb228, 0, none⟩ = some (.int .u32 x229000_2) := (blk_cell BK228.out 0).trans rfl
                    have hcz61_1 : wr.cell? ⟨gb228, 1, none⟩ = some (.int .u32 x229001_2) := (blk_cell BK228.out 1).trans rfl
                    have hcz61_2 : wr.cell? ⟨gb228, 2, none⟩ = some (.int .i64 x229002_2) := (blk_cell BK228.out 2).trans rfl
                    have hcz61_3 : wr.cell? ⟨gb228, 3, none⟩ = some (.int .i64 x229003_2) := (blk_cell BK228.out 3).trans rfl
                    have hcz61_4 : wr.cell? ⟨gb228, 4, none⟩ = some (.int .i64 x229004_2) := (blk_cell BK228.out 4).trans rfl
                    have hfz61_0 := blk_frozen BK228.out 0
                    have hfz61_1 := blk_frozen BK228.out 1
                    have hfz61_2 := blk_frozen BK228.out 2
                    have hfz61_3 := blk_frozen BK228.out 3
                    have hfz61_4 := blk_frozen BK228.out 4
                    go_wp2_with (first | ((with_reducible refine gate_callee (f := 17) rfl ?_); refine goesL_ (some 56) rfl rfl Try.func17 (by kernel_rfl) rfl #[.agg #[.int .i64 a0_0, .int .i64 a0_1, .int .i64 a0_2, .int .i64 a0_3], .agg #[.int .u32 x229000_2, .int .u32 x229001_2, .int .i64 x229002_2, .int .i64 x229003_2, .int .i64 x229004_2]] rfl (by (try simp only [List.map_toArray, List.map_cons, List.map_nil]); first | done | rfl | (simp only [List.length_drop, List.length_take]; rfl)) ?_; (with_reducible refine (querier_Tick.calls a0_0 a0_1 a0_2 a0_3 x229000_2 x229001_2 x229002_2 x229003_2 x229004_2 t229 t230 t231 t232 t233 false _ A35.out).mono ?_); rintro e w62 ⟨rfl, hb⟩; refine ⟨_, rfl, ?_⟩; have n0_ := Aside0.mk (blk_below (g := gb219) (o := .cells #[.int .i64 a0_0, .int .i64 a0_1, .int .i64 a0_2, .int .i64 a0_3] 23 (0, 0)) (by (with_reducible repeat (first | refine blk_drewN ?_ _ | refine blk_drew ?_ | refine blk_alloc ?_ _)); exact BK219.out) hb); have n1_ := Aside0.mk (blk_below (g := gb228) (o := .cells #[.int .u32 x229000_2, .int .u32 x229001_2, .int .i64 x229002_2, .int .i64 x229003_2, .int .i64 x229004_2] 27 (0, 0)) (by (with_reducible repeat (first | refine blk_drewN ?_ _ | refine blk_drew ?_ | refine blk_alloc ?_ _)); exact BK228.out) hb); have n2_ := Aside0.mk (below_step (by repeat (first | (with_reducible first | exact HB.out | apply below_alloc | apply pw_below_drewN | apply below_drew1 | refine below_set ?_ GE219.out | refine below_set ?_ GE228.out) | exact HB.out)) hb); clear BK219; clear BK228; clear HB; have BK219 := n0_; have BK228 := n1_; have HB := n2_; clear n0_ n1_ n2_; (try clear hb); (try clear hb2); (try clear hk); (try clear hi)) | ((with_reducible refine gate_dst (N := 13) rfl ?_); refine box_event ?hg (N := 13) ?hd (cs := #[.int .u32 0, .int .u32 0, .int .i64 0, .int .i64 0, .int .i64 0]) (t := 27) ?hr ?_; (case hd => rfl); (case hg => rfl); (case hr => first | (go_simp; done) | (go_simp; rfl)); intro gb235 hg w63 hbox hb; have n0_ := Aside0.mk (blk_below (g := gb219) (o := .cells #[.int .i64 a0_0, .int .i64 a0_1, .int .i64 a0_2, .int .i64 a0_3] 23 (0, 0)) (by (with_reducible repeat (first | refine blk_drewN ?_ _ | refine blk_drew ?_ | refine blk_alloc ?_ _)); exact BK219.out) hb); have n1_ := Aside0.mk (blk_below (g := gb228) (o := .cells #[.int .u32 x229000_2, .int .u32 x229001_2, .int .i64 x229002_2, .int .i64 x229003_2, .int .i64 x229004_2] 27 (0, 0)) (by (with_reducible repeat (first | refine blk_drewN ?_ _ | refine blk_drew ?_ | refine blk_alloc ?_ _)); exact BK228.out) hb); have n2_ := Aside0.mk (below_step (by repeat (first | (with_reducible first | exact HB.out | apply below_alloc | apply pw_below_drewN | apply below_drew1 | refine below_set ?_ GE219.out | refine below_set ?_ GE228.out) | exact HB.out)) hb); have n3_ := Aside0.mk (hbox); have n4_ := Aside0.mk ((by rw [hg]; exact (below_size (by repeat (first | (with_reducible first | exact HB.out | apply below_alloc | apply pw_below_drewN | apply below_drew1 | refine below_set ?_ GE219.out | refine below_set ?_ GE228.out) | exact HB.out))) : w.heap.size ≤ gb235)); have n5_ := Aside0.mk ((by rw [hg]; exact (below_size (by repeat (first | (with_reducible first | exact HB.out | apply below_alloc | apply pw_below_drewN | apply below_drew1 | refine below_set ?_ GE219.out | refine below_set ?_ GE228.out) | exact HB.out))) : w.heap.size ≤ gb235)); have n6_ := Aside0.mk ((by rw [hg]; exact Nat.ne_of_lt (blk_lt (g := gb219) (o := .cells #[.int .i64 a0_0, .int .i64 a0_1, .int .i64 a0_2, .int .i64 a0_3] 23 (0, 0)) (by (with_reducible repeat (first | refine blk_drewN ?_ _ | refine blk_drew ?_ | refine blk_alloc ?_ _)); exact BK219.out)) : gb219 ≠ gb235)); have n7_ := Aside0.mk ((by rw [hg]; exact Nat.ne_of_gt (blk_lt (g := gb219) (o := .cells #[.int .i64 a0_0, .int .i64 a0_1, .int .i64 a0_2, .int .i64 a0_3] 23 (0, 0)) (by (with_reducible repeat (first | refine blk_drewN ?_ _ | refine blk_drew ?_ | refine blk_alloc ?_ _)); exact BK219.out)) : gb235 ≠ gb219)); have n8_ := Aside0.mk ((by rw [hg]; exact Nat.ne_of_lt (blk_lt (g := gb228) (o := .cells #[.int .u32 x229000_2, .int .u32 x229001_2, .int .i64 x229002_2, .int .i64 x229003_2, .int .i64 x229004_2] 27 (0, 0)) (by (with_reducible repeat (first | refine blk_drewN ?_ _ | refine blk_drew ?_ | refine blk_alloc ?_ _)); exact BK228.out)) : gb228 ≠ gb235)); have n9_ := Aside0.mk ((by rw [hg]; exact Nat.ne_of_gt (blk_lt (g := gb228) (o := .cells #[.int .u32 x229000_2, .int .u32 x229001_2, .int .i64 x229002_2, .int .i64 x229003_2, .int .i64 x229004_2] 27 (0, 0)) (by (with_reducible repeat (first | refine blk_drewN ?_ _ | refine blk_drew ?_ | refine blk_alloc ?_ _)); exact BK228.out)) : gb235 ≠ gb228)); clear BK219; clear BK228; clear HB; have BK219 := n0_; have BK228 := n1_; have HB := n2_; have BK235 := n3_; have GW235 := n4_; have GE235 := n5_; have NB219_235 := n6_; have NB235_219 := n7_; have NB228_235 := n8_; have NB235_228 := n9_; clear n0_ n1_ n2_ n3_ n4_ n5_ n6_ n7_ n8_ n9_; clear hb hbox hg; have hnb64 := NB235_219.out; have hnc64 := NB219_235.out; have hnb65 := NB235_228.out; have hnc65 := NB228_235.out; have hcz66_0 : w63.cell? ⟨gb235, 0, none⟩ = some (.int .u32 0) := (blk_cell BK235.out 0).trans rfl; have hcz66_1 : w63.cell? ⟨gb235, 1, none⟩ = some (.int .u32 0) := (blk_cell BK235.out 1).trans rfl; have hcz66_2 : w63.cell? ⟨gb235, 2, none⟩ = some (.int .i64 0) := (blk_cell BK235.out 2).trans rfl; have hcz66_3 : w63.cell? ⟨gb235, 3, none⟩ = some (.int .i64 0) := (blk_cell BK235.out 3).trans rfl; have hcz66_4 : w63.cell? ⟨gb235, 4, none⟩ = some (.int .i64 0) := (blk_cell BK235.out 4).trans rfl; have hfz66_0 := blk_frozen BK235.out 0; have hfz66_1 := blk_frozen BK235.out 1; have hfz66_2 := blk_frozen BK235.out 2; have hfz66_3 := blk_frozen BK235.out 3; have hfz66_4 := blk_frozen BK235.out 4; have hcz67_0 : w63.cell? ⟨gb228, 0, none⟩ = some (.int .u32 x229000_2) := (blk_cell BK228.out 0).trans rfl; have hcz67_1 : w63.cell? ⟨gb228, 1, none⟩ = some (.int .u32 x229001_2) := (blk_cell BK228.out 1).trans rfl; have hcz67_2 : w63.cell? ⟨gb228, 2, none⟩ = some (.int .i64 x229002_2) := (blk_cell BK228.out 2).trans rfl; have hcz67_3 : w63.cell? ⟨gb228, 3, none⟩ = some (.int .i64 x229003_2) := (blk_cell BK228.out 3).trans rfl; have hcz67_4 : w63.cell? ⟨gb228, 4, none⟩ = some (.int .i64 x229004_2) := (blk_cell BK228.out 4).trans rfl; have hfz67_0 := blk_frozen BK228.out 0; have hfz67_1 := blk_frozen BK228.out 1; have hfz67_2 := blk_frozen BK228.out 2; have hfz67_3 := blk_frozen BK228.out 3; have hfz67_4 := blk_frozen BK228.out 4))
                    go_roundg k2
                    case measure => have := HJ4.out; have := HK2.out; omega
                    case rel => exact ⟨(x10_2), (x11_2), (wrap64 (x12_2 + 1)), (t229), (t230), (t231), (t232), (t233), (by first | rfl | (simp; done) | (simp [*]; done)), (by first | rfl | (simp; done) | (simp [*]; done)), (by first | rfl | (simp; done) | (simp [*]; done)), H', ⟨by have := HJ4.out; have := HK2.out; omega⟩, ⟨by (with_reducible repeat (first | refine blk_drewN ?_ _ | refine blk_drew ?_ | refine blk_alloc ?_ _)); refine blk_far ?_ NB219_228.out _; (with_reducible repeat (first | refine blk_drewN ?_ _ | refine blk_drew ?_ | refine blk_alloc ?_ _)); refine blk_far ?_ NB219_228.out _; (with_reducible repeat (first | refine blk_drewN ?_ _ | refine blk_drew ?_ | refine blk_alloc ?_ _)); refine blk_far ?_ NB219_228.out _; (with_reducible repeat (first | refine blk_drewN ?_ _ | refine blk_drew ?_ | refine blk_alloc ?_ _)); refine blk_far ?_ NB219_228.out _; (with_reducible repeat (first | refine blk_drewN ?_ _ | refine blk_drew ?_ | refine blk_alloc ?_ _)); refine blk_far ?_ NB219_228.out _; (with_reducible repeat (first | refine blk_drewN ?_ _ | refine blk_drew ?_ | refine blk_alloc ?_ _)); refine blk_far ?_ NB219_235.out _; (with_reducible repeat (first | refine blk_drewN ?_ _ | refine blk_drew ?_ | refine blk_alloc ?_ _)); refine blk_far ?_ NB219_235.out _; (with_reducible repeat (first | refine blk_drewN ?_ _ | refine blk_drew ?_ | refine blk_alloc ?_ _)); refine blk_far ?_ NB219_235.out _; (with_reducible repeat (first | refine blk_drewN ?_ _ | refine blk_drew ?_ | refine blk_alloc ?_ _)); refine blk_far ?_ NB219_235.out _; (with_reducible repeat (first | refine blk_drewN ?_ _ | refine blk_drew ?_ | refine blk_alloc ?_ _)); refine blk_far ?_ NB219_235.out _; (with_reducible repeat (first | refine blk_drewN ?_ _ | refine blk_drew ?_ | refine blk_alloc ?_ _)); exact BK219.out⟩, ⟨by (with_reducible repeat (first | refine blk_drewN ?_ _ | refine blk_drew ?_ | refine blk_alloc ?_ _)); refine blk_put (cs := #[.int .u32 t229, .int .u32 t230, .int .i64 t231, .int .i64 t232, .int .i64 x229004_2]) ?_ 4 _ rfl; (with_reducible repeat (first | refine blk_drewN ?_ _ | refine blk_drew ?_ | refine blk_alloc ?_ _)); refine blk_put (cs := #[.int .u32 t229, .int .u32 t230, .int .i64 t231, .int .i64 x229003_2, .int .i64 x229004_2]) ?_ 3 _ rfl; (with_reducible repeat (first | refine blk_drewN ?_ _ | refine blk_drew ?_ | refine blk_alloc ?_ _)); refine blk_put (cs := #[.int .u32 t229, .int .u32 t230, .int .i64 x229002_2, .int .i64 x229003_2, .int .i64 x229004_2]) ?_ 2 _ rfl; (with_reducible repeat (first | refine blk_drewN ?_ _ | refine blk_drew ?_ | refine blk_alloc ?_ _)); refine blk_put (cs := #[.int .u32 t229, .int .u32 x229001_2, .int .i64 x229002_2, .int .i64 x229003_2, .int .i64 x229004_2]) ?_ 1 _ rfl; (with_reducible repeat (first | refine blk_drewN ?_ _ | refine blk_drew ?_ | refine blk_alloc ?_ _)); refine blk_put (cs := #[.int .u32 x229000_2, .int .u32 x229001_2, .int .i64 x229002_2, .int .i64 x229003_2, .int .i64 x229004_2]) ?_ 0 _ rfl; (with_reducible repeat (first | refine blk_drewN ?_ _ | refine blk_drew ?_ | refine blk_alloc ?_ _)); refine blk_far ?_ NB228_235.out _; (with_reducible repeat (first | refine blk_drewN ?_ _ | refine blk_drew ?_ | refine blk_alloc ?_ _)); refine blk_far ?_ NB228_235.out _; (with_reducible repeat (first | refine blk_drewN ?_ _ | refine blk_drew ?_ | refine blk_alloc ?_ _)); refine blk_far ?_ NB228_235.out _; (with_reducible repeat (first | refine blk_drewN ?_ _ | refine blk_drew ?_ | refine blk_alloc ?_ _)); refine blk_far ?_ NB228_235.out _; (with_reducible repeat (first | refine blk_drewN ?_ _ | refine blk_drew ?_ | refine blk_alloc ?_ _)); refine blk_far ?_ NB228_235.out _; (with_reducible repeat (first | refine blk_drewN ?_ _ | refine blk_drew ?_ | refine blk_alloc ?_ _)); exact BK228.out⟩, ⟨by repeat (first | (with_reducible first | exact HB.out | apply below_alloc | apply pw_below_drewN | apply below_drew1 | refine below_set ?_ GE219.out | refine below_set ?_ GE228.out | refine below_set ?_ GE235.out) | exact HB.out)⟩⟩
              · rw [if_neg c34] at H
                have c34b0 : decide (x12_2 ≤ (wrap64 (a2))) = false := decide_eq_false c34
                clear c34
                obtain rfl := Option.some.inj H
                go_wp2
                go_ret
                exact ⟨by first | rfl | (simp [errW_none, errW_some] <;> rfl) | (simp [*, errW_none, errW_some] <;> rfl), by repeat (first | (with_reducible first | exact HB.out | apply below_alloc | apply pw_below_drewN | apply below_drew1 | refine below_set ?_ GE219.out | refine below_set ?_ GE228.out) | exact HB.out)⟩
        · rw [if_neg c28] at H
          have c28b0 : (t227 == 0) = false := beq_eq_false_iff_ne.mpr c28
          have c28b1 : (t227 != 0) = true := bne_iff_ne.mpr c28
          exact absurd ((Option.some.inj H).trans hTrue.out) (by simp)

end Go.Proofs.Ytlihbdinghoeeaa.P
