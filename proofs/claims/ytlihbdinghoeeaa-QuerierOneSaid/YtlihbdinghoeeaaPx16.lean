/- For each Go function a Lean function, and the proof that a call comes to what it tells: made by program out of the translation (the kit's print, with texts by hand put in). No condition. -/
import Derived.Test.YtlihbdinghoeeaaPx0
import Derived.Test.YtlihbdinghoeeaaPx5
import Derived.Test.YtlihbdinghoeeaaPx7
import Derived.Test.YtlihbdinghoeeaaPx8
import Derived.Test.YtlihbdinghoeeaaPx9
namespace Go.Proofs.Ytlihbdinghoeeaa.P
open Go.RowKit Go.Proofs.YtlihbdinghoeeaaW.PrintWords Go.Proofs.YtlihbdinghoeeaaW.PrintLast Go.Proofs.YtlihbdinghoeeaaW.PrintMore
attribute [local go_sem] max2_int min2_int max_two min_two max_three min_three max_four min_four   -- for this text's walks alone
set_option linter.unusedVariables false
set_option linter.unusedSimpArgs false

/-! ### stolonlaw10_QuerierOne: function 6 -/
mutual
def stolonlaw10_QuerierOne.j0 : Nat → Int → Int → Int → Bool → Bool → Int → Int → Int → Int → Option (Bool)
  | 0, _, _, _, _, _, _, _, _, _ => none
  | k + 1, x4, x5, x6, x7, x55, x238000, x238001, x238002, x238003 => if x55 = true then (some x7) else ((querier_New.f x238000 x238001 x238002 x238003 x4).bind fun bt240 => ((querier_New.f x238000 x238001 x238002 x238003 x5).bind fun bt247 => (stolonlaw10_QuerierOne.l0 k x4 x5 x6 x7 0 x238000 x238001 x238002 x238003 bt240.1 bt240.2.1 bt240.2.2.1 bt240.2.2.2.1 bt240.2.2.2.2.1 bt247.1 bt247.2.1 bt247.2.2.1 bt247.2.2.2.1 bt247.2.2.2.2.1)))
def stolonlaw10_QuerierOne.l0 : Nat → Int → Int → Int → Bool → Int → Int → Int → Int → Int → Int → Int → Int → Int → Int → Int → Int → Int → Int → Int → Option (Bool)
  | 0, _, _, _, _, _, _, _, _, _, _, _, _, _, _, _, _, _, _, _ => none
  | k + 1, x4, x5, x6, x7, x12, x238000, x238001, x238002, x238003, x247000, x247001, x247002, x247003, x247004, x254000, x254001, x254002, x254003, x254004 => if x12 ≤ (wrap64 (x6)) then ((querier_Tick.f x238000 x238001 x238002 x238003 x247000 x247001 x247002 x247003 x247004).bind fun bt256 => ((querier_Tick.f x238000 x238001 x238002 x238003 x254000 x254001 x254002 x254003 x254004).bind fun bt263 => (if bt263.2.2.2.2.2 = true then (stolonlaw10_QuerierOne.j2 k x4 x5 x6 x7 x12 bt256.2.2.2.2.2 bt263.2.2.2.2.2 (decide (x12 > 0)) x238000 x238001 x238002 x238003 bt256.1 bt256.2.1 bt256.2.2.1 bt256.2.2.2.1 bt256.2.2.2.2.1 bt263.1 bt263.2.1 bt263.2.2.1 bt263.2.2.2.1 bt263.2.2.2.2.1) else (stolonlaw10_QuerierOne.j2 k x4 x5 x6 x7 x12 bt256.2.2.2.2.2 bt263.2.2.2.2.2 false x238000 x238001 x238002 x238003 bt256.1 bt256.2.1 bt256.2.2.1 bt256.2.2.2.1 bt256.2.2.2.2.1 bt263.1 bt263.2.1 bt263.2.2.1 bt263.2.2.2.1 bt263.2.2.2.2.1)))) else (if x7 = true then ((querier_Asks.f x247000 x247001 x247002 x247003 x247004).bind fun t254 => (if t254 = true then ((querier_Asks.f x254000 x254001 x254002 x254003 x254004).bind fun t255 => (some (!t255))) else (some false))) else (some false))
def stolonlaw10_QuerierOne.j2 : Nat → Int → Int → Int → Bool → Int → Bool → Bool → Bool → Int → Int → Int → Int → Int → Int → Int → Int → Int → Int → Int → Int → Int → Int → Option (Bool)
  | 0, _, _, _, _, _, _, _, _, _, _, _, _, _, _, _, _, _, _, _, _, _, _ => none
  | k + 1, x4, x5, x6, x7, x12, x14, x16, x91, x238000, x238001, x238002, x238003, x263000, x263001, x263002, x263003, x263004, x270000, x270001, x270002, x270003, x270004 => if x91 = true then (some false) else (if x14 = true then ((querier_Hear.f x238000 x238001 x238002 x238003 x270000 x270001 x270002 x270003 x270004 x4).bind fun bt270 => (if x16 = true then ((querier_Hear.f x238000 x238001 x238002 x238003 x263000 x263001 x263002 x263003 x263004 x5).bind fun bt275 => (stolonlaw10_QuerierOne.l0 k x4 x5 x6 x7 (wrap64 (x12 + 1)) x238000 x238001 x238002 x238003 bt275.1 bt275.2.1 bt275.2.2.1 bt275.2.2.2.1 bt275.2.2.2.2 bt270.1 bt270.2.1 bt270.2.2.1 bt270.2.2.2.1 bt270.2.2.2.2)) else (stolonlaw10_QuerierOne.l0 k x4 x5 x6 x7 (wrap64 (x12 + 1)) x238000 x238001 x238002 x238003 x263000 x263001 x263002 x263003 x263004 bt270.1 bt270.2.1 bt270.2.2.1 bt270.2.2.2.1 bt270.2.2.2.2))) else (if x16 = true then ((querier_Hear.f x238000 x238001 x238002 x238003 x263000 x263001 x263002 x263003 x263004 x5).bind fun bt280 => (stolonlaw10_QuerierOne.l0 k x4 x5 x6 x7 (wrap64 (x12 + 1)) x238000 x238001 x238002 x238003 bt280.1 bt280.2.1 bt280.2.2.1 bt280.2.2.2.1 bt280.2.2.2.2 x270000 x270001 x270002 x270003 x270004)) else (stolonlaw10_QuerierOne.l0 k x4 x5 x6 x7 (wrap64 (x12 + 1)) x238000 x238001 x238002 x238003 x263000 x263001 x263002 x263003 x263004 x270000 x270001 x270002 x270003 x270004)))
end
def stolonlaw10_QuerierOne.f (k : Nat) (a0_0 : Int) (a0_1 : Int) (a0_2 : Int) (a0_3 : Int) (a0_4 : Int) (a0_5 : Int) (a0_6 : Int) : Option (Bool) := (stolonlaw10_shown.f).bind fun t238 => ((stolonref10_May.f a0_0 a0_1 a0_2 a0_3).bind fun t239 => (if t239 = true then (if a0_4 = 0 then (stolonlaw10_QuerierOne.j0 k a0_4 a0_5 a0_6 t238 true a0_0 a0_1 a0_2 a0_3) else (if a0_4 ≥ a0_5 then (stolonlaw10_QuerierOne.j0 k a0_4 a0_5 a0_6 t238 true a0_0 a0_1 a0_2 a0_3) else (if a0_3 ≤ a0_0 then (stolonlaw10_QuerierOne.j0 k a0_4 a0_5 a0_6 t238 true a0_0 a0_1 a0_2 a0_3) else (if a0_3 ≤ a0_1 then (stolonlaw10_QuerierOne.j0 k a0_4 a0_5 a0_6 t238 true a0_0 a0_1 a0_2 a0_3) else (stolonlaw10_QuerierOne.j0 k a0_4 a0_5 a0_6 t238 (decide (a0_6 > 200)) a0_0 a0_1 a0_2 a0_3))))) else (stolonlaw10_QuerierOne.j0 k a0_4 a0_5 a0_6 t238 true a0_0 a0_1 a0_2 a0_3)))
theorem stolonlaw10_QuerierOne.mono_l : ∀ k, (∀ y0 y1 y2 y3 y4 y5 y6 y7 y8, LeO (stolonlaw10_QuerierOne.j0 k y0 y1 y2 y3 y4 y5 y6 y7 y8) (stolonlaw10_QuerierOne.j0 (k + 1) y0 y1 y2 y3 y4 y5 y6 y7 y8)) ∧ (∀ y0 y1 y2 y3 y4 y5 y6 y7 y8 y9 y10 y11 y12 y13 y14 y15 y16 y17 y18, LeO (stolonlaw10_QuerierOne.l0 k y0 y1 y2 y3 y4 y5 y6 y7 y8 y9 y10 y11 y12 y13 y14 y15 y16 y17 y18) (stolonlaw10_QuerierOne.l0 (k + 1) y0 y1 y2 y3 y4 y5 y6 y7 y8 y9 y10 y11 y12 y13 y14 y15 y16 y17 y18)) ∧ (∀ y0 y1 y2 y3 y4 y5 y6 y7 y8 y9 y10 y11 y12 y13 y14 y15 y16 y17 y18 y19 y20 y21, LeO (stolonlaw10_QuerierOne.j2 k y0 y1 y2 y3 y4 y5 y6 y7 y8 y9 y10 y11 y12 y13 y14 y15 y16 y17 y18 y19 y20 y21) (stolonlaw10_QuerierOne.j2 (k + 1) y0 y1 y2 y3 y4 y5 y6 y7 y8 y9 y10 y11 y12 y13 y14 y15 y16 y17 y18 y19 y20 y21))
  | 0 => ⟨fun _ _ _ _ _ _ _ _ _ r h => by simp [stolonlaw10_QuerierOne.j0] at h, fun _ _ _ _ _ _ _ _ _ _ _ _ _ _ _ _ _ _ _ r h => by simp [stolonlaw10_QuerierOne.l0] at h, fun _ _ _ _ _ _ _ _ _ _ _ _ _ _ _ _ _ _ _ _ _ _ r h => by simp [stolonlaw10_QuerierOne.j2] at h⟩
  | k + 1 => by
    obtain ⟨ih0, ih1, ih2⟩ := stolonlaw10_QuerierOne.mono_l k
    refine ⟨?_, ?_, ?_⟩
    · intro y0 y1 y2 y3 y4 y5 y6 y7 y8
      unfold stolonlaw10_QuerierOne.j0
      repeat' first
      | (with_reducible exact ih0 _ _ _ _ _ _ _ _ _)
      | (with_reducible exact ih1 _ _ _ _ _ _ _ _ _ _ _ _ _ _ _ _ _ _ _)
      | (with_reducible exact ih2 _ _ _ _ _ _ _ _ _ _ _ _ _ _ _ _ _ _ _ _ _ _)
      | (with_reducible exact LeO.refl _)
      | (with_reducible exact LeO.none _)
      | (with_reducible refine LeO.ite ?_ ?_)
      | (with_reducible refine LeO.bind ?_ (fun _ => ?_))
      | exact ih0 _ _ _ _ _ _ _ _ _
      | exact ih1 _ _ _ _ _ _ _ _ _ _ _ _ _ _ _ _ _ _ _
      | exact ih2 _ _ _ _ _ _ _ _ _ _ _ _ _ _ _ _ _ _ _ _ _ _
      | exact LeO.none _
      | refine LeO.ite ?_ ?_
      | refine LeO.bind ?_ (fun _ => ?_)
    · intro y0 y1 y2 y3 y4 y5 y6 y7 y8 y9 y10 y11 y12 y13 y14 y15 y16 y17 y18
      unfold stolonlaw10_QuerierOne.l0
      repeat' first
      | (with_reducible exact ih0 _ _ _ _ _ _ _ _ _)
      | (with_reducible exact ih1 _ _ _ _ _ _ _ _ _ _ _ _ _ _ _ _ _ _ _)
      | (with_reducible exact ih2 _ _ _ _ _ _ _ _ _ _ _ _ _ _ _ _ _ _ _ _ _ _)
      | (with_reducible exact LeO.refl _)
      | (with_reducible exact LeO.none _)
      | (with_reducible refine LeO.ite ?_ ?_)
      | (with_reducible refine LeO.bind ?_ (fun _ => ?_))
      | exact ih0 _ _ _ _ _ _ _ _ _
      | exact ih1 _ _ _ _ _ _ _ _ _ _ _ _ _ _ _ _ _ _ _
      | exact ih2 _ _ _ _ _ _ _ _ _ _ _ _ _ _ _ _ _ _ _ _ _ _
      | exact LeO.none _
      | refine LeO.ite ?_ ?_
      | refine LeO.bind ?_ (fun _ => ?_)
    · intro y0 y1 y2 y3 y4 y5 y6 y7 y8 y9 y10 y11 y12 y13 y14 y15 y16 y17 y18 y19 y20 y21
      unfold stolonlaw10_QuerierOne.j2
      repeat' first
      | (with_reducible exact ih0 _ _ _ _ _ _ _ _ _)
      | (with_reducible exact ih1 _ _ _ _ _ _ _ _ _ _ _ _ _ _ _ _ _ _ _)
      | (with_reducible exact ih2 _ _ _ _ _ _ _ _ _ _ _ _ _ _ _ _ _ _ _ _ _ _)
      | (with_reducible exact LeO.refl _)
      | (with_reducible exact LeO.none _)
      | (with_reducible refine LeO.ite ?_ ?_)
      | (with_reducible refine LeO.bind ?_ (fun _ => ?_))
      | exact ih0 _ _ _ _ _ _ _ _ _
      | exact ih1 _ _ _ _ _ _ _ _ _ _ _ _ _ _ _ _ _ _ _
      | exact ih2 _ _ _ _ _ _ _ _ _ _ _ _ _ _ _ _ _ _ _ _ _ _
      | exact LeO.none _
      | refine LeO.ite ?_ ?_
      | refine LeO.bind ?_ (fun _ => ?_)
theorem stolonlaw10_QuerierOne.mono : ∀ a0 a1 a2 a3 a4 a5 a6 k, LeO (stolonlaw10_QuerierOne.f k a0 a1 a2 a3 a4 a5 a6) (stolonlaw10_QuerierOne.f (k + 1) a0 a1 a2 a3 a4 a5 a6) := by
  intro a0 a1 a2 a3 a4 a5 a6 k
  obtain ⟨ih0, ih1, ih2⟩ := stolonlaw10_QuerierOne.mono_l k
  unfold stolonlaw10_QuerierOne.f
  repeat' first
      | (with_reducible exact ih0 _ _ _ _ _ _ _ _ _)
      | (with_reducible exact ih1 _ _ _ _ _ _ _ _ _ _ _ _ _ _ _ _ _ _ _)
      | (with_reducible exact ih2 _ _ _ _ _ _ _ _ _ _ _ _ _ _ _ _ _ _ _ _ _ _)
      | (with_reducible exact LeO.refl _)
      | (with_reducible exact LeO.none _)
      | (with_reducible refine LeO.ite ?_ ?_)
      | (with_reducible refine LeO.bind ?_ (fun _ => ?_))
      | exact ih0 _ _ _ _ _ _ _ _ _
      | exact ih1 _ _ _ _ _ _ _ _ _ _ _ _ _ _ _ _ _ _ _
      | exact ih2 _ _ _ _ _ _ _ _ _ _ _ _ _ _ _ _ _ _ _ _ _ _
      | exact LeO.none _
      | refine LeO.ite ?_ ?_
      | refine LeO.bind ?_ (fun _ => ?_)
set_option maxHeartbeats 8000000 in
set_option maxRecDepth 100000 in
theorem stolonlaw10_QuerierOne.calls (k : Nat) (a0_0 : Int) (a0_1 : Int) (a0_2 : Int) (a0_3 : Int) (a0_4 : Int) (a0_5 : Int) (a0_6 : Int) (r : Bool) (w : World) (hTrue : Aside0 (r = true)) (h : stolonlaw10_QuerierOne.f k a0_0 a0_1 a0_2 a0_3 a0_4 a0_5 a0_6 = some r) :
    Calls Try.prog 6 #[.agg #[.int .i64 a0_0, .int .i64 a0_1, .int .i64 a0_2, .int .i64 a0_3, .int .u32 a0_4, .int .u32 a0_5, .int .u8 a0_6]] w fun e w' => e = .returned (.bool r) ∧ Below w.heap.size w w' := by
  have hu42 := Try.underlying42
  have hu23 := Try.underlying23
  have hu27 := Try.underlying27
  have HB := Aside0.mk (Below.refl w.heap.size w)
  have H : ((stolonlaw10_shown.f).bind fun t238 => ((stolonref10_May.f a0_0 a0_1 a0_2 a0_3).bind fun t239 => (if t239 = true then (if a0_4 = 0 then (stolonlaw10_QuerierOne.j0 k a0_4 a0_5 a0_6 t238 true a0_0 a0_1 a0_2 a0_3) else (if a0_4 ≥ a0_5 then (stolonlaw10_QuerierOne.j0 k a0_4 a0_5 a0_6 t238 true a0_0 a0_1 a0_2 a0_3) else (if a0_3 ≤ a0_0 then (stolonlaw10_QuerierOne.j0 k a0_4 a0_5 a0_6 t238 true a0_0 a0_1 a0_2 a0_3) else (if a0_3 ≤ a0_1 then (stolonlaw10_QuerierOne.j0 k a0_4 a0_5 a0_6 t238 true a0_0 a0_1 a0_2 a0_3) else (stolonlaw10_QuerierOne.j0 k a0_4 a0_5 a0_6 t238 (decide (a0_6 > 200)) a0_0 a0_1 a0_2 a0_3))))) else (stolonlaw10_QuerierOne.j0 k a0_4 a0_5 a0_6 t238 true a0_0 a0_1 a0_2 a0_3)))) = some r := h
  clear h
  replace H := Option.bind_eq_some_iff.mp H
  obtain ⟨t238, A20, H⟩ := H
  replace H : ((stolonref10_May.f a0_0 a0_1 a0_2 a0_3).bind fun t239 => (if t239 = true then (if a0_4 = 0 then (stolonlaw10_QuerierOne.j0 k a0_4 a0_5 a0_6 t238 true a0_0 a0_1 a0_2 a0_3) else (if a0_4 ≥ a0_5 then (stolonlaw10_QuerierOne.j0 k a0_4 a0_5 a0_6 t238 true a0_0 a0_1 a0_2 a0_3) else (if a0_3 ≤ a0_0 then (stolonlaw10_QuerierOne.j0 k a0_4 a0_5 a0_6 t238 true a0_0 a0_1 a0_2 a0_3) else (if a0_3 ≤ a0_1 then (stolonlaw10_QuerierOne.j0 k a0_4 a0_5 a0_6 t238 true a0_0 a0_1 a0_2 a0_3) else (stolonlaw10_QuerierOne.j0 k a0_4 a0_5 a0_6 t238 (decide (a0_6 > 200)) a0_0 a0_1 a0_2 a0_3))))) else (stolonlaw10_QuerierOne.j0 k a0_4 a0_5 a0_6 t238 true a0_0 a0_1 a0_2 a0_3))) = some r := H
  have A2 := Aside0.mk A20
  clear A20
  have HC3 := Aside0.mk H
  clear H
  go_enter Try.func6, Try.ntmps6
  go_upto_region 6 with (first | ((with_reducible refine gate_dst (N := 1) rfl ?_); refine box_event ?hg (N := 1) ?hd (cs := #[.int .i64 a0_0, .int .i64 a0_1, .int .i64 a0_2, .int .i64 a0_3, .int .u32 a0_4, .int .u32 a0_5, .int .u8 a0_6]) (t := 42) ?hr ?_; (case hd => rfl); (case hg => rfl); (case hr => first | (go_simp; done) | (go_simp; rfl)); intro gb236 hg w4 hbox hb; have n0_ := Aside0.mk (below_step (by repeat (first | (with_reducible first | exact HB.out | apply below_alloc | apply pw_below_drewN | apply below_drew1) | exact HB.out)) hb); have n1_ := Aside0.mk (hbox); have n2_ := Aside0.mk ((by rw [hg]; exact (below_size (by repeat (first | (with_reducible first | exact HB.out | apply below_alloc | apply pw_below_drewN | apply below_drew1) | exact HB.out))) : w.heap.size ≤ gb236)); have n3_ := Aside0.mk ((by rw [hg]; exact (below_size (by repeat (first | (with_reducible first | exact HB.out | apply below_alloc | apply pw_below_drewN | apply below_drew1) | exact HB.out))) : w.heap.size ≤ gb236)); clear HB; have HB := n0_; have BK236 := n1_; have GW236 := n2_; have GE236 := n3_; clear n0_ n1_ n2_ n3_; clear hb hbox hg; have hcz5_0 : w4.cell? ⟨gb236, 0, none⟩ = some (.int .i64 a0_0) := (blk_cell BK236.out 0).trans rfl; have hcz5_1 : w4.cell? ⟨gb236, 1, none⟩ = some (.int .i64 a0_1) := (blk_cell BK236.out 1).trans rfl; have hcz5_2 : w4.cell? ⟨gb236, 2, none⟩ = some (.int .i64 a0_2) := (blk_cell BK236.out 2).trans rfl; have hcz5_3 : w4.cell? ⟨gb236, 3, none⟩ = some (.int .i64 a0_3) := (blk_cell BK236.out 3).trans rfl; have hcz5_4 : w4.cell? ⟨gb236, 4, none⟩ = some (.int .u32 a0_4) := (blk_cell BK236.out 4).trans rfl; have hcz5_5 : w4.cell? ⟨gb236, 5, none⟩ = some (.int .u32 a0_5) := (blk_cell BK236.out 5).trans rfl; have hcz5_6 : w4.cell? ⟨gb236, 6, none⟩ = some (.int .u8 a0_6) := (blk_cell BK236.out 6).trans rfl; have hfz5_0 := blk_frozen BK236.out 0; have hfz5_1 := blk_frozen BK236.out 1; have hfz5_2 := blk_frozen BK236.out 2; have hfz5_3 := blk_frozen BK236.out 3; have hfz5_4 := blk_frozen BK236.out 4; have hfz5_5 := blk_frozen BK236.out 5; have hfz5_6 := blk_frozen BK236.out 6) | ((with_reducible refine gate_dst (N := 3) rfl ?_); refine box_event ?hg (N := 3) ?hd (cs := #[.int .i64 0, .int .i64 0, .int .i64 0, .int .i64 0]) (t := 23) ?hr ?_; (case hd => rfl); (case hg => rfl); (case hr => first | (go_simp; done) | (go_simp; rfl)); intro gb237 hg w6 hbox hb; have n0_ := Aside0.mk (blk_below (g := gb236) (o := .cells #[.int .i64 a0_0, .int .i64 a0_1, .int .i64 a0_2, .int .i64 a0_3, .int .u32 a0_4, .int .u32 a0_5, .int .u8 a0_6] 42 (0, 0)) (by (with_reducible repeat (first | refine blk_drewN ?_ _ | refine blk_drew ?_ | refine blk_alloc ?_ _)); exact BK236.out) hb); have n1_ := Aside0.mk (below_step (by repeat (first | (with_reducible first | exact HB.out | apply below_alloc | apply pw_below_drewN | apply below_drew1 | refine below_set ?_ GE236.out) | exact HB.out)) hb); have n2_ := Aside0.mk (hbox); have n3_ := Aside0.mk ((by rw [hg]; exact (below_size (by repeat (first | (with_reducible first | exact HB.out | apply below_alloc | apply pw_below_drewN | apply below_drew1 | refine below_set ?_ GE236.out) | exact HB.out))) : w.heap.size ≤ gb237)); have n4_ := Aside0.mk ((by rw [hg]; exact (below_size (by repeat (first | (with_reducible first | exact HB.out | apply below_alloc | apply pw_below_drewN | apply below_drew1 | refine below_set ?_ GE236.out) | exact HB.out))) : w.heap.size ≤ gb237)); have n5_ := Aside0.mk ((by rw [hg]; exact Nat.ne_of_lt (blk_lt (g := gb236) (o := .cells #[.int .i64 a0_0, .int .i64 a0_1, .int .i64 a0_2, .int .i64 a0_3, .int .u32 a0_4, .int .u32 a0_5, .int .u8 a0_6] 42 (0, 0)) (by (with_reducible repeat (first | refine blk_drewN ?_ _ | refine blk_drew ?_ | refine blk_alloc ?_ _)); exact BK236.out)) : gb236 ≠ gb237)); have n6_ := Aside0.mk ((by rw [hg]; exact Nat.ne_of_gt (blk_lt (g := gb236) (o := .cells #[.int .i64 a0_0, .int .i64 a0_1, .int .i64 a0_2, .int .i64 a0_3, .int .u32 a0_4, .int .u32 a0_5, .int .u8 a0_6] 42 (0, 0)) (by (with_reducible repeat (first | refine blk_drewN ?_ _ | refine blk_drew ?_ | refine blk_alloc ?_ _)); exact BK236.out)) : gb237 ≠ gb236)); clear BK236; clear HB; have BK236 := n0_; have HB := n1_; have BK237 := n2_; have GW237 := n3_; have GE237 := n4_; have NB236_237 := n5_; have NB237_236 := n6_; clear n0_ n1_ n2_ n3_ n4_ n5_ n6_; clear hb hbox hg; have hnb7 := NB237_236.out; have hnc7 := NB236_237.out; have hcz8_0 : w6.cell? ⟨gb237, 0, none⟩ = some (.int .i64 0) := (blk_cell BK237.out 0).trans rfl; have hcz8_1 : w6.cell? ⟨gb237, 1, none⟩ = some (.int .i64 0) := (blk_cell BK237.out 1).trans rfl; have hcz8_2 : w6.cell? ⟨gb237, 2, none⟩ = some (.int .i64 0) := (blk_cell BK237.out 2).trans rfl; have hcz8_3 : w6.cell? ⟨gb237, 3, none⟩ = some (.int .i64 0) := (blk_cell BK237.out 3).trans rfl; have hfz8_0 := blk_frozen BK237.out 0; have hfz8_1 := blk_frozen BK237.out 1; have hfz8_2 := blk_frozen BK237.out 2; have hfz8_3 := blk_frozen BK237.out 3; have hcz9_0 : w6.cell? ⟨gb236, 0, none⟩ = some (.int .i64 a0_0) := (blk_cell BK236.out 0).trans rfl; have hcz9_1 : w6.cell? ⟨gb236, 1, none⟩ = some (.int .i64 a0_1) := (blk_cell BK236.out 1).trans rfl; have hcz9_2 : w6.cell? ⟨gb236, 2, none⟩ = some (.int .i64 a0_2) := (blk_cell BK236.out 2).trans rfl; have hcz9_3 : w6.cell? ⟨gb236, 3, none⟩ = some (.int .i64 a0_3) := (blk_cell BK236.out 3).trans rfl; have hcz9_4 : w6.cell? ⟨gb236, 4, none⟩ = some (.int .u32 a0_4) := (blk_cell BK236.out 4).trans rfl; have hcz9_5 : w6.cell? ⟨gb236, 5, none⟩ = some (.int .u32 a0_5) := (blk_cell BK236.out 5).trans rfl; have hcz9_6 : w6.cell? ⟨gb236, 6, none⟩ = some (.int .u8 a0_6) := (blk_cell BK236.out 6).trans rfl; have hfz9_0 := blk_frozen BK236.out 0; have hfz9_1 := blk_frozen BK236.out 1; have hfz9_2 := blk_frozen BK236.out 2; have hfz9_3 := blk_frozen BK236.out 3; have hfz9_4 := blk_frozen BK236.out 4; have hfz9_5 := blk_frozen BK236.out 5; have hfz9_6 := blk_frozen BK236.out 6) | ((with_reducible refine gate_callee (f := 9) rfl ?_); refine goesL_ (some 25) rfl rfl Try.func9 (by kernel_rfl) rfl #[] rfl (by (try simp only [List.map_toArray, List.map_cons, List.map_nil]); first | done | rfl | (simp only [List.length_drop, List.length_take]; rfl)) ?_; (with_reducible refine (stolonlaw10_shown.calls  t238 _ A2.out).mono ?_); rintro e w10 ⟨rfl, hb⟩; refine ⟨_, rfl, ?_⟩; have n0_ := Aside0.mk (blk_below (g := gb236) (o := .cells #[.int .i64 a0_0, .int .i64 a0_1, .int .i64 a0_2, .int .i64 a0_3, .int .u32 a0_4, .int .u32 a0_5, .int .u8 a0_6] 42 (0, 0)) (by (with_reducible repeat (first | refine blk_drewN ?_ _ | refine blk_drew ?_ | refine blk_alloc ?_ _)); refine blk_far ?_ NB236_237.out _; (with_reducible repeat (first | refine blk_drewN ?_ _ | refine blk_drew ?_ | refine blk_alloc ?_ _)); refine blk_far ?_ NB236_237.out _; (with_reducible repeat (first | refine blk_drewN ?_ _ | refine blk_drew ?_ | refine blk_alloc ?_ _)); refine blk_far ?_ NB236_237.out _; (with_reducible repeat (first | refine blk_drewN ?_ _ | refine blk_drew ?_ | refine blk_alloc ?_ _)); refine blk_far ?_ NB236_237.out _; (with_reducible repeat (first | refine blk_drewN ?_ _ | refine blk_drew ?_ | refine blk_alloc ?_ _)); exact BK236.out) hb); have n1_ := Aside0.mk (blk_below (g := gb237) (o := .cells #[.int .i64 a0_0, .int .i64 a0_1, .int .i64 a0_2, .int .i64 a0_3] 23 (0, 0)) (by (with_reducible repeat (first | refine blk_drewN ?_ _ | refine blk_drew ?_ | refine blk_alloc ?_ _)); refine blk_put (cs := #[.int .i64 a0_0, .int .i64 a0_1, .int .i64 a0_2, .int .i64 0]) ?_ 3 _ rfl; (with_reducible repeat (first | refine blk_drewN ?_ _ | refine blk_drew ?_ | refine blk_alloc ?_ _)); refine blk_put (cs := #[.int .i64 a0_0, .int .i64 a0_1, .int .i64 0, .int .i64 0]) ?_ 2 _ rfl; (with_reducible repeat (first | refine blk_drewN ?_ _ | refine blk_drew ?_ | refine blk_alloc ?_ _)); refine blk_put (cs := #[.int .i64 a0_0, .int .i64 0, .int .i64 0, .int .i64 0]) ?_ 1 _ rfl; (with_reducible repeat (first | refine blk_drewN ?_ _ | refine blk_drew ?_ | refine blk_alloc ?_ _)); refine blk_put (cs := #[.int .i64 0, .int .i64 0, .int .i64 0, .int .i64 0]) ?_ 0 _ rfl; (with_reducible repeat (first | refine blk_drewN ?_ _ | refine blk_drew ?_ | refine blk_alloc ?_ _)); exact BK237.out) hb); have n2_ := Aside0.mk (below_step (by repeat (first | (with_reducible first | exact HB.out | apply below_alloc | apply pw_below_drewN | apply below_drew1 | refine below_set ?_ GE236.out | refine below_set ?_ GE237.out) | exact HB.out)) hb); clear BK236; clear BK237; clear HB; have BK236 := n0_; have BK237 := n1_; have HB := n2_; clear n0_ n1_ n2_; (try clear hb); (try clear hb2); (try clear hk); (try clear hi)))
  (try simp only [Act.put, List.setIfInBounds_toArray, List.set_cons_zero, List.set_cons_succ])
  go_cut [55] (fun v55 wc => ∃ (kq : Nat) (x55_2 : Bool), v55 = .bool x55_2 ∧ Aside0 (stolonlaw10_QuerierOne.j0 kq a0_4 a0_5 a0_6 t238 x55_2 a0_0 a0_1 a0_2 a0_3 = some r) ∧ Aside0 (kq ≤ k) ∧ Aside0 (wc.heap[gb236]? = some (.cells #[.int .i64 a0_0, .int .i64 a0_1, .int .i64 a0_2, .int .i64 a0_3, .int .u32 a0_4, .int .u32 a0_5, .int .u8 a0_6] 42 (0, 0))) ∧ Aside0 (wc.heap[gb237]? = some (.cells #[.int .i64 a0_0, .int .i64 a0_1, .int .i64 a0_2, .int .i64 a0_3] 23 (0, 0))) ∧ Aside0 (Below w.heap.size w wc))
  case first =>
    have H := HC3.out
    clear HC3
    replace H := Option.bind_eq_some_iff.mp H
    obtain ⟨t239, A110, H⟩ := H
    replace H : (if t239 = true then (if a0_4 = 0 then (stolonlaw10_QuerierOne.j0 k a0_4 a0_5 a0_6 t238 true a0_0 a0_1 a0_2 a0_3) else (if a0_4 ≥ a0_5 then (stolonlaw10_QuerierOne.j0 k a0_4 a0_5 a0_6 t238 true a0_0 a0_1 a0_2 a0_3) else (if a0_3 ≤ a0_0 then (stolonlaw10_QuerierOne.j0 k a0_4 a0_5 a0_6 t238 true a0_0 a0_1 a0_2 a0_3) else (if a0_3 ≤ a0_1 then (stolonlaw10_QuerierOne.j0 k a0_4 a0_5 a0_6 t238 true a0_0 a0_1 a0_2 a0_3) else (stolonlaw10_QuerierOne.j0 k a0_4 a0_5 a0_6 t238 (decide (a0_6 > 200)) a0_0 a0_1 a0_2 a0_3))))) else (stolonlaw10_QuerierOne.j0 k a0_4 a0_5 a0_6 t238 true a0_0 a0_1 a0_2 a0_3)) = some r := H
    have A11 := Aside0.mk A110
    clear A110
    by_cases c12 : t239 = true
    · subst c12
      have H1 : (if a0_4 = 0 then (stolonlaw10_QuerierOne.j0 k a0_4 a0_5 a0_6 t238 true a0_0 a0_1 a0_2 a0_3) else (if a0_4 ≥ a0_5 then (stolonlaw10_QuerierOne.j0 k a0_4 a0_5 a0_6 t238 true a0_0 a0_1 a0_2 a0_3) else (if a0_3 ≤ a0_0 then (stolonlaw10_QuerierOne.j0 k a0_4 a0_5 a0_6 t238 true a0_0 a0_1 a0_2 a0_3) else (if a0_3 ≤ a0_1 then (stolonlaw10_QuerierOne.j0 k a0_4 a0_5 a0_6 t238 true a0_0 a0_1 a0_2 a0_3) else (stolonlaw10_QuerierOne.j0 k a0_4 a0_5 a0_6 t238 (decide (a0_6 > 200)) a0_0 a0_1 a0_2 a0_3))))) = some r := by rw [if_pos rfl] at H; exact H
      clear H
      have H := H1
      clear H1
      by_cases c13 : a0_4 = 0
      · rw [if_pos c13] at H
        have c13b0 : (a0_4 == 0) = true := beq_iff_eq.mpr c13
        have c13b1 : (a0_4 != 0) = false := bne_eq_false_iff_eq.mpr c13
        clear c13
        (first | rw [c13b0] | (simp only [i64_w, i32_w]; rw [c13b0]) | skip)
        have H' := Aside0.mk H
        clear H
        have hnb14 := NB237_236.out
        have hnc14 := NB236_237.out
        have hcz15_0 : w10.cell? ⟨gb237, 0, none⟩ = some (.int .i64 a0_0) := (blk_cell BK237.out 0).trans rfl
        have hcz15_1 : w10.cell? ⟨gb237, 1, none⟩ = some (.int .i64 a0_1) := (blk_cell BK237.out 1).trans rfl
        have hcz15_2 : w10.cell? ⟨gb237, 2, none⟩ = some (.int .i64 a0_2) := (blk_cell BK237.out 2).trans rfl
        have hcz15_3 : w10.cell? ⟨gb237, 3, none⟩ = some (.int .i64 a0_3) := (blk_cell BK237.out 3).trans rfl
        have hfz15_0 := blk_frozen BK237.out 0
        have hfz15_1 := blk_frozen BK237.out 1
        have hfz15_2 := blk_frozen BK237.out 2
        have hfz15_3 := blk_frozen BK237.out 3
        go_wp2_with (first | ((with_reducible refine gate_callee (f := 13) rfl ?_); refine goesL_ (some 27) rfl rfl Try.func13 (by kernel_rfl) rfl #[.agg #[.int .i64 a0_0, .int .i64 a0_1, .int .i64 a0_2, .int .i64 a0_3]] rfl (by (try simp only [List.map_toArray, List.map_cons, List.map_nil]); first | done | rfl | (simp only [List.length_drop, List.length_take]; rfl)) ?_; (with_reducible refine (stolonref10_May.calls a0_0 a0_1 a0_2 a0_3 true _ A11.out).mono ?_); rintro e w16 ⟨rfl, hb⟩; refine ⟨_, rfl, ?_⟩; have n0_ := Aside0.mk (blk_below (g := gb236) (o := .cells #[.int .i64 a0_0, .int .i64 a0_1, .int .i64 a0_2, .int .i64 a0_3, .int .u32 a0_4, .int .u32 a0_5, .int .u8 a0_6] 42 (0, 0)) (by (with_reducible repeat (first | refine blk_drewN ?_ _ | refine blk_drew ?_ | refine blk_alloc ?_ _)); exact BK236.out) hb); have n1_ := Aside0.mk (blk_below (g := gb237) (o := .cells #[.int .i64 a0_0, .int .i64 a0_1, .int .i64 a0_2, .int .i64 a0_3] 23 (0, 0)) (by (with_reducible repeat (first | refine blk_drewN ?_ _ | refine blk_drew ?_ | refine blk_alloc ?_ _)); exact BK237.out) hb); have n2_ := Aside0.mk (below_step (by repeat (first | (with_reducible first | exact HB.out | apply below_alloc | apply pw_below_drewN | apply below_drew1 | refine below_set ?_ GE236.out | refine below_set ?_ GE237.out) | exact HB.out)) hb); clear BK236; clear BK237; clear HB; have BK236 := n0_; have BK237 := n1_; have HB := n2_; clear n0_ n1_ n2_; (try clear hb); (try clear hb2); (try clear hk); (try clear hi)))
        go_meet
        case rel => exact ⟨_, (true), (by first | rfl | (simp; done) | (simp [*]; done)), H', ⟨by first | omega | exact Nat.le_refl _⟩, ⟨by (with_reducible repeat (first | refine blk_drewN ?_ _ | refine blk_drew ?_ | refine blk_alloc ?_ _)); exact BK236.out⟩, ⟨by (with_reducible repeat (first | refine blk_drewN ?_ _ | refine blk_drew ?_ | refine blk_alloc ?_ _)); exact BK237.out⟩, ⟨by repeat (first | (with_reducible first | exact HB.out | apply below_alloc | apply pw_below_drewN | apply below_drew1 | refine below_set ?_ GE236.out | refine below_set ?_ GE237.out) | exact HB.out)⟩⟩
      · rw [if_neg c13] at H
        have c13b0 : (a0_4 == 0) = false := beq_eq_false_iff_ne.mpr c13
        have c13b1 : (a0_4 != 0) = true := bne_iff_ne.mpr c13
        (first | rw [c13b0] | (simp only [i64_w, i32_w]; rw [c13b0]) | skip)
        by_cases c17 : a0_4 ≥ a0_5
        · rw [if_pos c17] at H
          have c17b0 : decide (a0_5 ≤ a0_4) = true := decide_eq_true c17
          clear c17
          have H' := Aside0.mk H
          clear H
          have hnb18 := NB237_236.out
          have hnc18 := NB236_237.out
          have hcz19_0 : w10.cell? ⟨gb237, 0, none⟩ = some (.int .i64 a0_0) := (blk_cell BK237.out 0).trans rfl
          have hcz19_1 : w10.cell? ⟨gb237, 1, none⟩ = some (.int .i64 a0_1) := (blk_cell BK237.out 1).trans rfl
          have hcz19_2 : w10.cell? ⟨gb237, 2, none⟩ = some (.int .i64 a0_2) := (blk_cell BK237.out 2).trans rfl
          have hcz19_3 : w10.cell? ⟨gb237, 3, none⟩ = some (.int .i64 a0_3) := (blk_cell BK237.out 3).trans rfl
          have hfz19_0 := blk_frozen BK237.out 0
          have hfz19_1 := blk_frozen BK237.out 1
          have hfz19_2 := blk_frozen BK237.out 2
          have hfz19_3 := blk_frozen BK237.out 3
          go_wp2_with (first | ((with_reducible refine gate_callee (f := 13) rfl ?_); refine goesL_ (some 27) rfl rfl Try.func13 (by kernel_rfl) rfl #[.agg #[.int .i64 a0_0, .int .i64 a0_1, .int .i64 a0_2, .int .i64 a0_3]] rfl (by (try simp only [List.map_toArray, List.map_cons, List.map_nil]); first | done | rfl | (simp only [List.length_drop, List.length_take]; rfl)) ?_; (with_reducible refine (stolonref10_May.calls a0_0 a0_1 a0_2 a0_3 true _ A11.out).mono ?_); rintro e w20 ⟨rfl, hb⟩; refine ⟨_, rfl, ?_⟩; have n0_ := Aside0.mk (blk_below (g := gb236) (o := .cells #[.int .i64 a0_0, .int .i64 a0_1, .int .i64 a0_2, .int .i64 a0_3, .int .u32 a0_4, .int .u32 a0_5, .int .u8 a0_6] 42 (0, 0)) (by (with_reducible repeat (first | refine blk_drewN ?_ _ | refine blk_drew ?_ | refine blk_alloc ?_ _)); exact BK236.out) hb); have n1_ := Aside0.mk (blk_below (g := gb237) (o := .cells #[.int .i64 a0_0, .int .i64 a0_1, .int .i64 a0_2, .int .i64 a0_3] 23 (0, 0)) (by (with_reducible repeat (first | refine blk_drewN ?_ _ | refine blk_drew ?_ | refine blk_alloc ?_ _)); exact BK237.out) hb); have n2_ := Aside0.mk (below_step (by repeat (first | (with_reducible first | exact HB.out | apply below_alloc | apply pw_below_drewN | apply below_drew1 | refine below_set ?_ GE236.out | refine below_set ?_ GE237.out) | exact HB.out)) hb); clear BK236; clear BK237; clear HB; have BK236 := n0_; have BK237 := n1_; have HB := n2_; clear n0_ n1_ n2_; (try clear hb); (try clear hb2); (try clear hk); (try clear hi)))
          go_meet
          case rel => exact ⟨_, (true), (by first | rfl | (simp; done) | (simp [*]; done)), H', ⟨by first | omega | exact Nat.le_refl _⟩, ⟨by (with_reducible repeat (first | refine blk_drewN ?_ _ | refine blk_drew ?_ | refine blk_alloc ?_ _)); exact BK236.out⟩, ⟨by (with_reducible repeat (first | refine blk_drewN ?_ _ | refine blk_drew ?_ | refine blk_alloc ?_ _)); exact BK237.out⟩, ⟨by repeat (first | (with_reducible first | exact HB.out | apply below_alloc | apply pw_below_drewN | apply below_drew1 | refine below_set ?_ GE236.out | refine below_set ?_ GE237.out) | exact HB.out)⟩⟩
        · rw [if_neg c17] at H
          have c17b0 : decide (a0_5 ≤ a0_4) = false := decide_eq_false c17
          clear c17
          by_cases c21 : a0_3 ≤ a0_0
          · rw [if_pos c21] at H
            have c21b0 : decide (a0_3 ≤ a0_0) = true := decide_eq_true c21
            clear c21
            have H' := Aside0.mk H
            clear H
            have hnb22 := NB237_236.out
            have hnc22 := NB236_237.out
            have hcz23_0 : w10.cell? ⟨gb237, 0, none⟩ = some (.int .i64 a0_0) := (blk_cell BK237.out 0).trans rfl
            have hcz23_1 : w10.cell? ⟨gb237, 1, none⟩ = some (.int .i64 a0_1) := (blk_cell BK237.out 1).trans rfl
            have hcz23_2 : w10.cell? ⟨gb237, 2, none⟩ = some (.int .i64 a0_2) := (blk_cell BK237.out 2).trans rfl
            have hcz23_3 : w10.cell? ⟨gb237, 3, none⟩ = some (.int .i64 a0_3) := (blk_cell BK237.out 3).trans rfl
            have hfz23_0 := blk_frozen BK237.out 0
            have hfz23_1 := blk_frozen BK237.out 1
            have hfz23_2 := blk_frozen BK237.out 2
            have hfz23_3 := blk_frozen BK237.out 3
            go_wp2_with (first | ((with_reducible refine gate_callee (f := 13) rfl ?_); refine goesL_ (some 27) rfl rfl Try.func13 (by kernel_rfl) rfl #[.agg #[.int .i64 a0_0, .int .i64 a0_1, .int .i64 a0_2, .int .i64 a0_3]] rfl (by (try simp only [List.map_toArray, List.map_cons, List.map_nil]); first | done | rfl | (simp only [List.length_drop, List.length_take]; rfl)) ?_; (with_reducible refine (stolonref10_May.calls a0_0 a0_1 a0_2 a0_3 true _ A11.out).mono ?_); rintro e w24 ⟨rfl, hb⟩; refine ⟨_, rfl, ?_⟩; have n0_ := Aside0.mk (blk_below (g := gb236) (o := .cells #[.int .i64 a0_0, .int .i64 a0_1, .int .i64 a0_2, .int .i64 a0_3, .int .u32 a0_4, .int .u32 a0_5, .int .u8 a0_6] 42 (0, 0)) (by (with_reducible repeat (first | refine blk_drewN ?_ _ | refine blk_drew ?_ | refine blk_alloc ?_ _)); exact BK236.out) hb); have n1_ := Aside0.mk (blk_below (g := gb237) (o := .cells #[.int .i64 a0_0, .int .i64 a0_1, .int .i64 a0_2, .int .i64 a0_3] 23 (0, 0)) (by (with_reducible repeat (first | refine blk_drewN ?_ _ | refine blk_drew ?_ | refine blk_alloc ?_ _)); exact BK237.out) hb); have n2_ := Aside0.mk (below_step (by repeat (first | (with_reducible first | exact HB.out | apply below_alloc | apply pw_below_drewN | apply below_drew1 | refine below_set ?_ GE236.out | refine below_set ?_ GE237.out) | exact HB.out)) hb); clear BK236; clear BK237; clear HB; have BK236 := n0_; have BK237 := n1_; have HB := n2_; clear n0_ n1_ n2_; (try clear hb); (try clear hb2); (try clear hk); (try clear hi); have hcz25_0 : w24.cell? ⟨gb237, 0, none⟩ = some (.int .i64 a0_0) := (blk_cell BK237.out 0).trans rfl; have hcz25_1 : w24.cell? ⟨gb237, 1, none⟩ = some (.int .i64 a0_1) := (blk_cell BK237.out 1).trans rfl; have hcz25_2 : w24.cell? ⟨gb237, 2, none⟩ = some (.int .i64 a0_2) := (blk_cell BK237.out 2).trans rfl; have hcz25_3 : w24.cell? ⟨gb237, 3, none⟩ = some (.int .i64 a0_3) := (blk_cell BK237.out 3).trans rfl; have hfz25_0 := blk_frozen BK237.out 0; have hfz25_1 := blk_frozen BK237.out 1; have hfz25_2 := blk_frozen BK237.out 2; have hfz25_3 := blk_frozen BK237.out 3))
            go_meet
            case rel => exact ⟨_, (true), (by first | rfl | (simp; done) | (simp [*]; done)), H', ⟨by first | omega | exact Nat.le_refl _⟩, ⟨by (with_reducible repeat (first | refine blk_drewN ?_ _ | refine blk_drew ?_ | refine blk_alloc ?_ _)); exact BK236.out⟩, ⟨by (with_reducible repeat (first | refine blk_drewN ?_ _ | refine blk_drew ?_ | refine blk_alloc ?_ _)); exact BK237.out⟩, ⟨by repeat (first | (with_reducible first | exact HB.out | apply below_alloc | apply pw_below_drewN | apply below_drew1 | refine below_set ?_ GE236.out | refine below_set ?_ GE237.out) | exact HB.out)⟩⟩
          · rw [if_neg c21] at H
            have c21b0 : decide (a0_3 ≤ a0_0) = false := decide_eq_false c21
            clear c21
            by_cases c26 : a0_3 ≤ a0_1
            · rw [if_pos c26] at H
              have c26b0 : decide (a0_3 ≤ a0_1) = true := decide_eq_true c26
              clear c26
              have H' := Aside0.mk H
              clear H
              have hnb27 := NB237_236.out
              have hnc27 := NB236_237.out
              have hcz28_0 : w10.cell? ⟨gb237, 0, none⟩ = some (.int .i64 a0_0) := (blk_cell BK237.out 0).trans rfl
              have hcz28_1 : w10.cell? ⟨gb237, 1, none⟩ = some (.int .i64 a0_1) := (blk_cell BK237.out 1).trans rfl
              have hcz28_2 : w10.cell? ⟨gb237, 2, none⟩ = some (.int .i64 a0_2) := (blk_cell BK237.out 2).trans rfl
              have hcz28_3 : w10.cell? ⟨gb237, 3, none⟩ = some (.int .i64 a0_3) := (blk_cell BK237.out 3).trans rfl
              have hfz28_0 := blk_frozen BK237.out 0
              have hfz28_1 := blk_frozen BK237.out 1
              have hfz28_2 := blk_frozen BK237.out 2
              have hfz28_3 := blk_frozen BK237.out 3
              go_wp2_with (first | ((with_reducible refine gate_callee (f := 13) rfl ?_); refine goesL_ (some 27) rfl rfl Try.func13 (by kernel_rfl) rfl #[.agg #[.int .i64 a0_0, .int .i64 a0_1, .int .i64 a0_2, .int .i64 a0_3]] rfl (by (try simp only [List.map_toArray, List.map_cons, List.map_nil]); first | done | rfl | (simp only [List.length_drop, List.length_take]; rfl)) ?_; (with_reducible refine (stolonref10_May.calls a0_0 a0_1 a0_2 a0_3 true _ A11.out).mono ?_); rintro e w29 ⟨rfl, hb⟩; refine ⟨_, rfl, ?_⟩; have n0_ := Aside0.mk (blk_below (g := gb236) (o := .cells #[.int .i64 a0_0, .int .i64 a0_1, .int .i64 a0_2, .int .i64 a0_3, .int .u32 a0_4, .int .u32 a0_5, .int .u8 a0_6] 42 (0, 0)) (by (with_reducible repeat (first | refine blk_drewN ?_ _ | refine blk_drew ?_ | refine blk_alloc ?_ _)); exact BK236.out) hb); have n1_ := Aside0.mk (blk_below (g := gb237) (o := .cells #[.int .i64 a0_0, .int .i64 a0_1, .int .i64 a0_2, .int .i64 a0_3] 23 (0, 0)) (by (with_reducible repeat (first | refine blk_drewN ?_ _ | refine blk_drew ?_ | refine blk_alloc ?_ _)); exact BK237.out) hb); have n2_ := Aside0.mk (below_step (by repeat (first | (with_reducible first | exact HB.out | apply below_alloc | apply pw_below_drewN | apply below_drew1 | refine below_set ?_ GE236.out | refine below_set ?_ GE237.out) | exact HB.out)) hb); clear BK236; clear BK237; clear HB; have BK236 := n0_; have BK237 := n1_; have HB := n2_; clear n0_ n1_ n2_; (try clear hb); (try clear hb2); (try clear hk); (try clear hi); have hcz30_0 : w29.cell? ⟨gb237, 0, none⟩ = some (.int .i64 a0_0) := (blk_cell BK237.out 0).trans rfl; have hcz30_1 : w29.cell? ⟨gb237, 1, none⟩ = some (.int .i64 a0_1) := (blk_cell BK237.out 1).trans rfl; have hcz30_2 : w29.cell? ⟨gb237, 2, none⟩ = some (.int .i64 a0_2) := (blk_cell BK237.out 2).trans rfl; have hcz30_3 : w29.cell? ⟨gb237, 3, none⟩ = some (.int .i64 a0_3) := (blk_cell BK237.out 3).trans rfl; have hfz30_0 := blk_frozen BK237.out 0; have hfz30_1 := blk_frozen BK237.out 1; have hfz30_2 := blk_frozen BK237.out 2; have hfz30_3 := blk_frozen BK237.out 3))
              go_meet
              case rel => exact ⟨_, (true), (by first | rfl | (simp; done) | (simp [*]; done)), H', ⟨by first | omega | exact Nat.le_refl _⟩, ⟨by (with_reducible repeat (first | refine blk_drewN ?_ _ | refine blk_drew ?_ | refine blk_alloc ?_ _)); exact BK236.out⟩, ⟨by (with_reducible repeat (first | refine blk_drewN ?_ _ | refine blk_drew ?_ | refine blk_alloc ?_ _)); exact BK237.out⟩, ⟨by repeat (first | (with_reducible first | exact HB.out | apply below_alloc | apply pw_below_drewN | apply below_drew1 | refine below_set ?_ GE236.out | refine below_set ?_ GE237.out) | exact HB.out)⟩⟩
            · rw [if_neg c26] at H
              have c26b0 : decide (a0_3 ≤ a0_1) = false := decide_eq_false c26
              clear c26
              have H' := Aside0.mk H
              clear H
              have hnb31 := NB237_236.out
              have hnc31 := NB236_237.out
              have hcz32_0 : w10.cell? ⟨gb237, 0, none⟩ = some (.int .i64 a0_0) := (blk_cell BK237.out 0).trans rfl
              have hcz32_1 : w10.cell? ⟨gb237, 1, none⟩ = some (.int .i64 a0_1) := (blk_cell BK237.out 1).trans rfl
              have hcz32_2 : w10.cell? ⟨gb237, 2, none⟩ = some (.int .i64 a0_2) := (blk_cell BK237.out 2).trans rfl
              have hcz32_3 : w10.cell? ⟨gb237, 3, none⟩ = some (.int .i64 a0_3) := (blk_cell BK237.out 3).trans rfl
              have hfz32_0 := blk_frozen BK237.out 0
              have hfz32_1 := blk_frozen BK237.out 1
              have hfz32_2 := blk_frozen BK237.out 2
              have hfz32_3 := blk_frozen BK237.out 3
              go_wp2_with (first | ((with_reducible refine gate_callee (f := 13) rfl ?_); refine goesL_ (some 27) rfl rfl Try.func13 (by kernel_rfl) rfl #[.agg #[.int .i64 a0_0, .int .i64 a0_1, .int .i64 a0_2, .int .i64 a0_3]] rfl (by (try simp only [List.map_toArray, List.map_cons, List.map_nil]); first | done | rfl | (simp only [List.length_drop, List.length_take]; rfl)) ?_; (with_reducible refine (stolonref10_May.calls a0_0 a0_1 a0_2 a0_3 true _ A11.out).mono ?_); rintro e w33 ⟨rfl, hb⟩; refine ⟨_, rfl, ?_⟩; have n0_ := Aside0.mk (blk_below (g := gb236) (o := .cells #[.int .i64 a0_0, .int .i64 a0_1, .int .i64 a0_2, .int .i64 a0_3, .int .u32 a0_4, .int .u32 a0_5, .int .u8 a0_6] 42 (0, 0)) (by (with_reducible repeat (first | refine blk_drewN ?_ _ | refine blk_drew ?_ | refine blk_alloc ?_ _)); exact BK236.out) hb); have n1_ := Aside0.mk (blk_below (g := gb237) (o := .cells #[.int .i64 a0_0, .int .i64 a0_1, .int .i64 a0_2, .int .i64 a0_3] 23 (0, 0)) (by (with_reducible repeat (first | refine blk_drewN ?_ _ | refine blk_drew ?_ | refine blk_alloc ?_ _)); exact BK237.out) hb); have n2_ := Aside0.mk (below_step (by repeat (first | (with_reducible first | exact HB.out | apply below_alloc | apply pw_below_drewN | apply below_drew1 | refine below_set ?_ GE236.out | refine below_set ?_ GE237.out) | exact HB.out)) hb); clear BK236; clear BK237; clear HB; have BK236 := n0_; have BK237 := n1_; have HB := n2_; clear n0_ n1_ n2_; (try clear hb); (try clear hb2); (try clear hk); (try clear hi); have hcz34_0 : w33.cell? ⟨gb237, 0, none⟩ = some (.int .i64 a0_0) := (blk_cell BK237.out 0).trans rfl; have hcz34_1 : w33.cell? ⟨gb237, 1, none⟩ = some (.int .i64 a0_1) := (blk_cell BK237.out 1).trans rfl; have hcz34_2 : w33.cell? ⟨gb237, 2, none⟩ = some (.int .i64 a0_2) := (blk_cell BK237.out 2).trans rfl; have hcz34_3 : w33.cell? ⟨gb237, 3, none⟩ = some (.int .i64 a0_3) := (blk_cell BK237.out 3).trans rfl; have hfz34_0 := blk_frozen BK237.out 0; have hfz34_1 := blk_frozen BK237.out 1; have hfz34_2 := blk_frozen BK237.out 2; have hfz34_3 := blk_frozen BK237.out 3))
              go_meet
              case rel => exact ⟨_, (decide (a0_6 > 200)), (by first | rfl | (simp; done) | (simp [*]; done)), H', ⟨by first | omega | exact Nat.le_refl _⟩, ⟨by (with_reducible repeat (first | refine blk_drewN ?_ _ | refine blk_drew ?_ | refine blk_alloc ?_ _)); exact BK236.out⟩, ⟨by (with_reducible repeat (first | refine blk_drewN ?_ _ | refine blk_drew ?_ | refine blk_alloc ?_ _)); exact BK237.out⟩, ⟨by repeat (first | (with_reducible first | exact HB.out | apply below_alloc | apply pw_below_drewN | apply below_drew1 | refine below_set ?_ GE236.out | refine below_set ?_ GE237.out) | exact HB.out)⟩⟩
    · replace c12 := Bool.eq_false_iff.mpr c12
      subst c12
      have H1 : (stolonlaw10_QuerierOne.j0 k a0_4 a0_5 a0_6 t238 true a0_0 a0_1 a0_2 a0_3) = some r := by rw [if_neg (show ¬ (false = true) by decide)] at H; exact H
      clear H
      have H := H1
      clear H1
      have H' := Aside0.mk H
      clear H
      have hnb35 := NB237_236.out
      have hnc35 := NB236_237.out
      have hcz36_0 : w10.cell? ⟨gb237, 0, none⟩ = some (.int .i64 a0_0) := (blk_cell BK237.out 0).trans rfl
      have hcz36_1 : w10.cell? ⟨gb237, 1, none⟩ = some (.int .i64 a0_1) := (blk_cell BK237.out 1).trans rfl
      have hcz36_2 : w10.cell? ⟨gb237, 2, none⟩ = some (.int .i64 a0_2) := (blk_cell BK237.out 2).trans rfl
      have hcz36_3 : w10.cell? ⟨gb237, 3, none⟩ = some (.int .i64 a0_3) := (blk_cell BK237.out 3).trans rfl
      have hfz36_0 := blk_frozen BK237.out 0
      have hfz36_1 := blk_frozen BK237.out 1
      have hfz36_2 := blk_frozen BK237.out 2
      have hfz36_3 := blk_frozen BK237.out 3
      go_wp2_with (first | ((with_reducible refine gate_callee (f := 13) rfl ?_); refine goesL_ (some 27) rfl rfl Try.func13 (by kernel_rfl) rfl #[.agg #[.int .i64 a0_0, .int .i64 a0_1, .int .i64 a0_2, .int .i64 a0_3]] rfl (by (try simp only [List.map_toArray, List.map_cons, List.map_nil]); first | done | rfl | (simp only [List.length_drop, List.length_take]; rfl)) ?_; (with_reducible refine (stolonref10_May.calls a0_0 a0_1 a0_2 a0_3 false _ A11.out).mono ?_); rintro e w37 ⟨rfl, hb⟩; refine ⟨_, rfl, ?_⟩; have n0_ := Aside0.mk (blk_below (g := gb236) (o := .cells #[.int .i64 a0_0, .int .i64 a0_1, .int .i64 a0_2, .int .i64 a0_3, .int .u32 a0_4, .int .u32 a0_5, .int .u8 a0_6] 42 (0, 0)) (by (with_reducible repeat (first | refine blk_drewN ?_ _ | refine blk_drew ?_ | refine blk_alloc ?_ _)); exact BK236.out) hb); have n1_ := Aside0.mk (blk_below (g := gb237) (o := .cells #[.int .i64 a0_0, .int .i64 a0_1, .int .i64 a0_2, .int .i64 a0_3] 23 (0, 0)) (by (with_reducible repeat (first | refine blk_drewN ?_ _ | refine blk_drew ?_ | refine blk_alloc ?_ _)); exact BK237.out) hb); have n2_ := Aside0.mk (below_step (by repeat (first | (with_reducible first | exact HB.out | apply below_alloc | apply pw_below_drewN | apply below_drew1 | refine below_set ?_ GE236.out | refine below_set ?_ GE237.out) | exact HB.out)) hb); clear BK236; clear BK237; clear HB; have BK236 := n0_; have BK237 := n1_; have HB := n2_; clear n0_ n1_ n2_; (try clear hb); (try clear hb2); (try clear hk); (try clear hi)))
      go_meet
      case rel => exact ⟨_, (true), (by first | rfl | (simp; done) | (simp [*]; done)), H', ⟨by first | omega | exact Nat.le_refl _⟩, ⟨by (with_reducible repeat (first | refine blk_drewN ?_ _ | refine blk_drew ?_ | refine blk_alloc ?_ _)); exact BK236.out⟩, ⟨by (with_reducible repeat (first | refine blk_drewN ?_ _ | refine blk_drew ?_ | refine blk_alloc ?_ _)); exact BK237.out⟩, ⟨by repeat (first | (with_reducible first | exact HB.out | apply below_alloc | apply pw_below_drewN | apply below_drew1 | refine below_set ?_ GE236.out | refine below_set ?_ GE237.out) | exact HB.out)⟩⟩
  case rest =>
    clear HC3
    try clear c1
    try clear c2
    try clear p2
    try clear c3
    try clear c6
    try clear c7
    try clear c9
    try clear c12
    try clear c13
    try clear c13b0
    try clear c13b1
    try clear c14
    try clear c17
    try clear c17b0
    try clear c18
    try clear c21
    try clear c21b0
    try clear c22
    try clear c26
    try clear c26b0
    try clear c27
    try clear c31
    try clear c35
    try clear hcz15_0
    try clear hcz15_1
    try clear hcz15_2
    try clear hcz15_3
    try clear hcz19_0
    try clear hcz19_1
    try clear hcz19_2
    try clear hcz19_3
    try clear hcz23_0
    try clear hcz23_1
    try clear hcz23_2
    try clear hcz23_3
    try clear hcz25_0
    try clear hcz25_1
    try clear hcz25_2
    try clear hcz25_3
    try clear hcz28_0
    try clear hcz28_1
    try clear hcz28_2
    try clear hcz28_3
    try clear hcz30_0
    try clear hcz30_1
    try clear hcz30_2
    try clear hcz30_3
    try clear hcz32_0
    try clear hcz32_1
    try clear hcz32_2
    try clear hcz32_3
    try clear hcz34_0
    try clear hcz34_1
    try clear hcz34_2
    try clear hcz34_3
    try clear hcz36_0
    try clear hcz36_1
    try clear hcz36_2
    try clear hcz36_3
    try clear hcz5_0
    try clear hcz5_1
    try clear hcz5_2
    try clear hcz5_3
    try clear hcz5_4
    try clear hcz5_5
    try clear hcz5_6
    try clear hcz8_0
    try clear hcz8_1
    try clear hcz8_2
    try clear hcz8_3
    try clear hcz9_0
    try clear hcz9_1
    try clear hcz9_2
    try clear hcz9_3
    try clear hcz9_4
    try clear hcz9_5
    try clear hcz9_6
    try clear hfz15_0
    try clear hfz15_1
    try clear hfz15_2
    try clear hfz15_3
    try clear hfz19_0
    try clear hfz19_1
    try clear hfz19_2
    try clear hfz19_3
    try clear hfz23_0
    try clear hfz23_1
    try clear hfz23_2
    try clear hfz23_3
    try clear hfz25_0
    try clear hfz25_1
    try clear hfz25_2
    try clear hfz25_3
    try clear hfz28_0
    try clear hfz28_1
    try clear hfz28_2
    try clear hfz28_3
    try clear hfz30_0
    try clear hfz30_1
    try clear hfz30_2
    try clear hfz30_3
    try clear hfz32_0
    try clear hfz32_1
    try clear hfz32_2
    try clear hfz32_3
    try clear hfz34_0
    try clear hfz34_1
    try clear hfz34_2
    try clear hfz34_3
    try clear hfz36_0
    try clear hfz36_1
    try clear hfz36_2
    try clear hfz36_3
    try clear hfz5_0
    try clear hfz5_1
    try clear hfz5_2
    try clear hfz5_3
    try clear hfz5_4
    try clear hfz5_5
    try clear hfz5_6
    try clear hfz8_0
    try clear hfz8_1
    try clear hfz8_2
    try clear hfz8_3
    try clear hfz9_0
    try clear hfz9_1
    try clear hfz9_2
    try clear hfz9_3
    try clear hfz9_4
    try clear hfz9_5
    try clear hfz9_6
    obtain ⟨kq, x55_2, rfl, HA, HJ2, BK236, BK237, HB⟩ := hcut
    cases kq with
    | zero => exact absurd HA.out (by simp [stolonlaw10_QuerierOne.j0])
    | succ kj2 =>
      have H := HA.out
      clear HA
      simp only [stolonlaw10_QuerierOne.j0] at H
      by_cases c38 : x55_2 = true
      · subst c38
        have H1 : (some t238) = some r := by rw [if_pos rfl] at H; exact H
        clear H
        have H := H1
        clear H1
        obtain rfl := Option.some.inj H
        go_wp2
        go_ret
        exact ⟨by first | rfl | (simp [errW_none, errW_some] <;> rfl) | (simp [*, errW_none, errW_some] <;> rfl), by repeat (first | (with_reducible first | exact HB.out | apply below_alloc | apply pw_below_drewN | apply below_drew1 | refine below_set ?_ GE236.out | refine below_set ?_ GE237.out) | exact HB.out)⟩
      · replace c38 := Bool.eq_false_iff.mpr c38
        subst c38
        have H1 : ((querier_New.f a0_0 a0_1 a0_2 a0_3 a0_4).bind fun bt240 => ((querier_New.f a0_0 a0_1 a0_2 a0_3 a0_5).bind fun bt247 => (stolonlaw10_QuerierOne.l0 kj2 a0_4 a0_5 a0_6 t238 0 a0_0 a0_1 a0_2 a0_3 bt240.1 bt240.2.1 bt240.2.2.1 bt240.2.2.2.1 bt240.2.2.2.2.1 bt247.1 bt247.2.1 bt247.2.2.1 bt247.2.2.2.1 bt247.2.2.2.2.1))) = some r := by rw [if_neg (show ¬ (false = true) by decide)] at H; exact H
        clear H
        have H := H1
        clear H1
        replace H := Option.bind_eq_some_iff.mp H
        obtain ⟨⟨t240, t241, t242, t243, t244, t245⟩, A390, H⟩ := H
        replace H : ((querier_New.f a0_0 a0_1 a0_2 a0_3 a0_5).bind fun bt247 => (stolonlaw10_QuerierOne.l0 kj2 a0_4 a0_5 a0_6 t238 0 a0_0 a0_1 a0_2 a0_3 t240 t241 t242 t243 t244 bt247.1 bt247.2.1 bt247.2.2.1 bt247.2.2.2.1 bt247.2.2.2.2.1)) = some r := H
        have A39 := Aside0.mk A390
        clear A390
        replace H := Option.bind_eq_some_iff.mp H
        obtain ⟨⟨t247, t248, t249, t250, t251, t252⟩, A400, H⟩ := H
        replace H : (stolonlaw10_QuerierOne.l0 kj2 a0_4 a0_5 a0_6 t238 0 a0_0 a0_1 a0_2 a0_3 t240 t241 t242 t243 t244 t247 t248 t249 t250 t251) = some r := H
        have A40 := Aside0.mk A400
        clear A400
        have H' := Aside0.mk H
        clear H
        have hnb41 := NB237_236.out
        have hnc41 := NB236_237.out
        have hcz42_0 : wc.cell? ⟨gb237, 0, none⟩ = some (.int .i64 a0_0) := (blk_cell BK237.out 0).trans rfl
        have hcz42_1 : wc.cell? ⟨gb237, 1, none⟩ = some (.int .i64 a0_1) := (blk_cell BK237.out 1).trans rfl
        have hcz42_2 : wc.cell? ⟨gb237, 2, none⟩ = some (.int .i64 a0_2) := (blk_cell BK237.out 2).trans rfl
        have hcz42_3 : wc.cell? ⟨gb237, 3, none⟩ = some (.int .i64 a0_3) := (blk_cell BK237.out 3).trans rfl
        have hfz42_0 := blk_frozen BK237.out 0
        have hfz42_1 := blk_frozen BK237.out 1
        have hfz42_2 := blk_frozen BK237.out 2
        have hfz42_3 := blk_frozen BK237.out 3
        go_wp2_with (first | ((with_reducible refine gate_callee (f := 10) rfl ?_); refine goesL_ (some 60) rfl rfl Try.func10 (by kernel_rfl) rfl #[.agg #[.int .i64 a0_0, .int .i64 a0_1, .int .i64 a0_2, .int .i64 a0_3], .int .u32 a0_4] rfl (by (try simp only [List.map_toArray, List.map_cons, List.map_nil]); first | done | rfl | (simp only [List.length_drop, List.length_take]; rfl)) ?_; (with_reducible refine (querier_New.calls a0_0 a0_1 a0_2 a0_3 a0_4 t240 t241 t242 t243 t244 t245 _ A39.out).mono ?_); rintro e w43 ⟨rfl, hb⟩; refine ⟨_, rfl, ?_⟩; have n0_ := Aside0.mk (blk_below (g := gb236) (o := .cells #[.int .i64 a0_0, .int .i64 a0_1, .int .i64 a0_2, .int .i64 a0_3, .int .u32 a0_4, .int .u32 a0_5, .int .u8 a0_6] 42 (0, 0)) (by (with_reducible repeat (first | refine blk_drewN ?_ _ | refine blk_drew ?_ | refine blk_alloc ?_ _)); exact BK236.out) hb); have n1_ := Aside0.mk (blk_below (g := gb237) (o := .cells #[.int .i64 a0_0, .int .i64 a0_1, .int .i64 a0_2, .int .i64 a0_3] 23 (0, 0)) (by (with_reducible repeat (first | refine blk_drewN ?_ _ | refine blk_drew ?_ | refine blk_alloc ?_ _)); exact BK237.out) hb); have n2_ := Aside0.mk (below_step (by repeat (first | (with_reducible first | exact HB.out | apply below_alloc | apply pw_below_drewN | apply below_drew1 | refine below_set ?_ GE236.out | refine below_set ?_ GE237.out) | exact HB.out)) hb); clear BK236; clear BK237; clear HB; have BK236 := n0_; have BK237 := n1_; have HB := n2_; clear n0_ n1_ n2_; (try clear hb); (try clear hb2); (try clear hk); (try clear hi)) | ((with_reducible refine gate_dst (N := 8) rfl ?_); refine box_event ?hg (N := 8) ?hd (cs := #[.int .u32 0, .int .u32 0, .int .i64 0, .int .i64 0, .int .i64 0]) (t := 27) ?hr ?_; (case hd => rfl); (case hg => rfl); (case hr => first | (go_simp; done) | (go_simp; rfl)); intro gb246 hg w44 hbox hb; have n0_ := Aside0.mk (blk_below (g := gb236) (o := .cells #[.int .i64 a0_0, .int .i64 a0_1, .int .i64 a0_2, .int .i64 a0_3, .int .u32 a0_4, .int .u32 a0_5, .int .u8 a0_6] 42 (0, 0)) (by (with_reducible repeat (first | refine blk_drewN ?_ _ | refine blk_drew ?_ | refine blk_alloc ?_ _)); exact BK236.out) hb); have n1_ := Aside0.mk (blk_below (g := gb237) (o := .cells #[.int .i64 a0_0, .int .i64 a0_1, .int .i64 a0_2, .int .i64 a0_3] 23 (0, 0)) (by (with_reducible repeat (first | refine blk_drewN ?_ _ | refine blk_drew ?_ | refine blk_alloc ?_ _)); exact BK237.out) hb); have n2_ := Aside0.mk (below_step (by repeat (first | (with_reducible first | exact HB.out | apply below_alloc | apply pw_below_drewN | apply below_drew1 | refine below_set ?_ GE236.out | refine below_set ?_ GE237.out) | exact HB.out)) hb); have n3_ := Aside0.mk (hbox); have n4_ := Aside0.mk ((by rw [hg]; exact (below_size (by repeat (first | (with_reducible first | exact HB.out | apply below_alloc | apply pw_below_drewN | apply below_drew1 | refine below_set ?_ GE236.out | refine below_set ?_ GE237.out) | exact HB.out))) : w.heap.size ≤ gb246)); have n5_ := Aside0.mk ((by rw [hg]; exact (below_size (by repeat (first | (with_reducible first | exact HB.out | apply below_alloc | apply pw_below_drewN | apply below_drew1 | refine below_set ?_ GE236.out | refine below_set ?_ GE237.out) | exact HB.out))) : w.heap.size ≤ gb246)); have n6_ := Aside0.mk ((by rw [hg]; exact Nat.ne_of_lt (blk_lt (g := gb236) (o := .cells #[.int .i64 a0_0, .int .i64 a0_1, .int .i64 a0_2, .int .i64 a0_3, .int .u32 a0_4, .int .u32 a0_5, .int .u8 a0_6] 42 (0, 0)) (by (with_reducible repeat (first | refine blk_drewN ?_ _ | refine blk_drew ?_ | refine blk_alloc ?_ _)); exact BK236.out)) : gb236 ≠ gb246)); have n7_ := Aside0.mk ((by rw [hg]; exact Nat.ne_of_gt (blk_lt (g := gb236) (o := .cells #[.int .i64 a0_0, .int .i64 a0_1, .int .i64 a0_2, .int .i64 a0_3, .int .u32 a0_4, .int .u32 a0_5, .int .u8 a0_6] 42 (0, 0)) (by (with_reducible repeat (first | refine blk_drewN ?_ _ | refine blk_drew ?_ | refine blk_alloc ?_ _)); exact BK236.out)) : gb246 ≠ gb236)); have n8_ := Aside0.mk ((by rw [hg]; exact Nat.ne_of_lt (blk_lt (g := gb237) (o := .cells #[.int .i64 a0_0, .int .i64 a0_1, .int .i64 a0_2, .int .i64 a0_3] 23 (0, 0)) (by (with_reducible repeat (first | refine blk_drewN ?_ _ | refine blk_drew ?_ | refine blk_alloc ?_ _)); exact BK237.out)) : gb237 ≠ gb246)); have n9_ := Aside0.mk ((by rw [hg]; exact Nat.ne_of_gt (blk_lt (g := gb237) (o := .cells #[.int .i64 a0_0, .int .i64 a0_1, .int .i64 a0_2, .int .i64 a0_3] 23 (0, 0)) (by (with_reducible repeat (first | refine blk_drewN ?_ _ | refine blk_drew ?_ | refine blk_alloc ?_ _)); exact BK237.out)) : gb246 ≠ gb237)); clear BK236; clear BK237; clear HB; have BK236 := n0_; have BK237 := n1_; have HB := n2_; have BK246 := n3_; have GW246 := n4_; have GE246 := n5_; have NB236_246 := n6_; have NB246_236 := n7_; have NB237_246 := n8_; have NB246_237 := n9_; clear n0_ n1_ n2_ n3_ n4_ n5_ n6_ n7_ n8_ n9_; clear hb hbox hg; have hnb45 := NB246_236.out; have hnc45 := NB236_246.out; have hnb46 := NB246_237.out; have hnc46 := NB237_246.out; have hcz47_0 : w44.cell? ⟨gb246, 0, none⟩ = some (.int .u32 0) := (blk_cell BK246.out 0).trans rfl; have hcz47_1 : w44.cell? ⟨gb246, 1, none⟩ = some (.int .u32 0) := (blk_cell BK246.out 1).trans rfl; have hcz47_2 : w44.cell? ⟨gb246, 2, none⟩ = some (.int .i64 0) := (blk_cell BK246.out 2).trans rfl; have hcz47_3 : w44.cell? ⟨gb246, 3, none⟩ = some (.int .i64 0) := (blk_cell BK246.out 3).trans rfl; have hcz47_4 : w44.cell? ⟨gb246, 4, none⟩ = some (.int .i64 0) := (blk_cell BK246.out 4).trans rfl; have hfz47_0 := blk_frozen BK246.out 0; have hfz47_1 := blk_frozen BK246.out 1; have hfz47_2 := blk_frozen BK246.out 2; have hfz47_3 := blk_frozen BK246.out 3; have hfz47_4 := blk_frozen BK246.out 4; have hcz48_0 : w44.cell? ⟨gb237, 0, none⟩ = some (.int .i64 a0_0) := (blk_cell BK237.out 0).trans rfl; have hcz48_1 : w44.cell? ⟨gb237, 1, none⟩ = some (.int .i64 a0_1) := (blk_cell BK237.out 1).trans rfl; have hcz48_2 : w44.cell? ⟨gb237, 2, none⟩ = some (.int .i64 a0_2) := (blk_cell BK237.out 2).trans rfl; have hcz48_3 : w44.cell? ⟨gb237, 3, none⟩ = some (.int .i64 a0_3) := (blk_cell BK237.out 3).trans rfl; have hfz48_0 := blk_frozen BK237.out 0; have hfz48_1 := blk_frozen BK237.out 1; have hfz48_2 := blk_frozen BK237.out 2; have hfz48_3 := blk_frozen BK237.out 3) | ((with_reducible refine gate_callee (f := 10) rfl ?_); refine goesL_ (some 66) rfl rfl Try.func10 (by kernel_rfl) rfl #[.agg #[.int .i64 a0_0, .int .i64 a0_1, .int .i64 a0_2, .int .i64 a0_3], .int .u32 a0_5] rfl (by (try simp only [List.map_toArray, List.map_cons, List.map_nil]); first | done | rfl | (simp only [List.length_drop, List.length_take]; rfl)) ?_; (with_reducible refine (querier_New.calls a0_0 a0_1 a0_2 a0_3 a0_5 t247 t248 t249 t250 t251 t252 _ A40.out).mono ?_); rintro e w49 ⟨rfl, hb⟩; refine ⟨_, rfl, ?_⟩; have n0_ := Aside0.mk (blk_below (g := gb236) (o := .cells #[.int .i64 a0_0, .int .i64 a0_1, .int .i64 a0_2, .int .i64 a0_3, .int .u32 a0_4, .int .u32 a0_5, .int .u8 a0_6] 42 (0, 0)) (by (with_reducible repeat (first | refine blk_drewN ?_ _ | refine blk_drew ?_ | refine blk_alloc ?_ _)); refine blk_far ?_ NB236_246.out _; (with_reducible repeat (first | refine blk_drewN ?_ _ | refine blk_drew ?_ | refine blk_alloc ?_ _)); refine blk_far ?_ NB236_246.out _; (with_reducible repeat (first | refine blk_drewN ?_ _ | refine blk_drew ?_ | refine blk_alloc ?_ _)); refine blk_far ?_ NB236_246.out _; (with_reducible repeat (first | refine blk_drewN ?_ _ | refine blk_drew ?_ | refine blk_alloc ?_ _)); refine blk_far ?_ NB236_246.out _; (with_reducible repeat (first | refine blk_drewN ?_ _ | refine blk_drew ?_ | refine blk_alloc ?_ _)); refine blk_far ?_ NB236_246.out _; (with_reducible repeat (first | refine blk_drewN ?_ _ | refine blk_drew ?_ | refine blk_alloc ?_ _)); exact BK236.out) hb); have n1_ := Aside0.mk (blk_below (g := gb237) (o := .cells #[.int .i64 a0_0, .int .i64 a0_1, .int .i64 a0_2, .int .i64 a0_3] 23 (0, 0)) (by (with_reducible repeat (first | refine blk_drewN ?_ _ | refine blk_drew ?_ | refine blk_alloc ?_ _)); refine blk_far ?_ NB237_246.out _; (with_reducible repeat (first | refine blk_drewN ?_ _ | refine blk_drew ?_ | refine blk_alloc ?_ _)); refine blk_far ?_ NB237_246.out _; (with_reducible repeat (first | refine blk_drewN ?_ _ | refine blk_drew ?_ | refine blk_alloc ?_ _)); refine blk_far ?_ NB237_246.out _; (with_reducible repeat (first | refine blk_drewN ?_ _ | refine blk_drew ?_ | refine blk_alloc ?_ _)); refine blk_far ?_ NB237_246.out _; (with_reducible repeat (first | refine blk_drewN ?_ _ | refine blk_drew ?_ | refine blk_alloc ?_ _)); refine blk_far ?_ NB237_246.out _; (with_reducible repeat (first | refine blk_drewN ?_ _ | refine blk_drew ?_ | refine blk_alloc ?_ _)); exact BK237.out) hb); have n2_ := Aside0.mk (blk_below (g := gb246) (o := .cells #[.int .u32 t240, .int .u32 t241, .int .i64 t242, .int .i64 t243, .int .i64 t244] 27 (0, 0)) (by (with_reducible repeat (first | refine blk_drewN ?_ _ | refine blk_drew ?_ | refine blk_alloc ?_ _)); refine blk_put (cs := #[.int .u32 t240, .int .u32 t241, .int .i64 t242, .int .i64 t243, .int .i64 0]) ?_ 4 _ rfl; (with_reducible repeat (first | refine blk_drewN ?_ _ | refine blk_drew ?_ | refine blk_alloc ?_ _)); refine blk_put (cs := #[.int .u32 t240, .int .u32 t241, .int .i64 t242, .int .i64 0, .int .i64 0]) ?_ 3 _ rfl; (with_reducible repeat (first | refine blk_drewN ?_ _ | refine blk_drew ?_ | refine blk_alloc ?_ _)); refine blk_put (cs := #[.int .u32 t240, .int .u32 t241, .int .i64 0, .int .i64 0, .int .i64 0]) ?_ 2 _ rfl; (with_reducible repeat (first | refine blk_drewN ?_ _ | refine blk_drew ?_ | refine blk_alloc ?_ _)); refine blk_put (cs := #[.int .u32 t240, .int .u32 0, .int .i64 0, .int .i64 0, .int .i64 0]) ?_ 1 _ rfl; (with_reducible repeat (first | refine blk_drewN ?_ _ | refine blk_drew ?_ | refine blk_alloc ?_ _)); refine blk_put (cs := #[.int .u32 0, .int .u32 0, .int .i64 0, .int .i64 0, .int .i64 0]) ?_ 0 _ rfl; (with_reducible repeat (first | refine blk_drewN ?_ _ | refine blk_drew ?_ | refine blk_alloc ?_ _)); exact BK246.out) hb); have n3_ := Aside0.mk (below_step (by repeat (first | (with_reducible first | exact HB.out | apply below_alloc | apply pw_below_drewN | apply below_drew1 | refine below_set ?_ GE236.out | refine below_set ?_ GE237.out | refine below_set ?_ GE246.out) | exact HB.out)) hb); clear BK236; clear BK237; clear BK246; clear HB; have BK236 := n0_; have BK237 := n1_; have BK246 := n2_; have HB := n3_; clear n0_ n1_ n2_ n3_; (try clear hb); (try clear hb2); (try clear hk); (try clear hi)) | ((with_reducible refine gate_dst (N := 10) rfl ?_); refine box_event ?hg (N := 10) ?hd (cs := #[.int .u32 0, .int .u32 0, .int .i64 0, .int .i64 0, .int .i64 0]) (t := 27) ?hr ?_; (case hd => rfl); (case hg => rfl); (case hr => first | (go_simp; done) | (go_simp; rfl)); intro gb253 hg w50 hbox hb; have n0_ := Aside0.mk (blk_below (g := gb236) (o := .cells #[.int .i64 a0_0, .int .i64 a0_1, .int .i64 a0_2, .int .i64 a0_3, .int .u32 a0_4, .int .u32 a0_5, .int .u8 a0_6] 42 (0, 0)) (by (with_reducible repeat (first | refine blk_drewN ?_ _ | refine blk_drew ?_ | refine blk_alloc ?_ _)); exact BK236.out) hb); have n1_ := Aside0.mk (blk_below (g := gb237) (o := .cells #[.int .i64 a0_0, .int .i64 a0_1, .int .i64 a0_2, .int .i64 a0_3] 23 (0, 0)) (by (with_reducible repeat (first | refine blk_drewN ?_ _ | refine blk_drew ?_ | refine blk_alloc ?_ _)); exact BK237.out) hb); have n2_ := Aside0.mk (blk_below (g := gb246) (o := .cells #[.int .u32 t240, .int .u32 t241, .int .i64 t242, .int .i64 t243, .int .i64 t244] 27 (0, 0)) (by (with_reducible repeat (first | refine blk_drewN ?_ _ | refine blk_drew ?_ | refine blk_alloc ?_ _)); exact BK246.out) hb); have n3_ := Aside0.mk (below_step (by repeat (first | (with_reducible first | exact HB.out | apply below_alloc | apply pw_below_drewN | apply below_drew1 | refine below_set ?_ GE236.out | refine below_set ?_ GE237.out | refine below_set ?_ GE246.out) | exact HB.out)) hb); have n4_ := Aside0.mk (hbox); have n5_ := Aside0.mk ((by rw [hg]; exact (below_size (by repeat (first | (with_reducible first | exact HB.out | apply below_alloc | apply pw_below_drewN | apply below_drew1 | refine below_set ?_ GE236.out | refine below_set ?_ GE237.out | refine below_set ?_ GE246.out) | exact HB.out))) : w.heap.size ≤ gb253)); have n6_ := Aside0.mk ((by rw [hg]; exact (below_size (by repeat (first | (with_reducible first | exact HB.out | apply below_alloc | apply pw_below_drewN | apply below_drew1 | refine below_set ?_ GE236.out | refine below_set ?_ GE237.out | refine below_set ?_ GE246.out) | exact HB.out))) : w.heap.size ≤ gb253)); have n7_ := Aside0.mk ((by rw [hg]; exact Nat.ne_of_lt (blk_lt (g := gb236) (o := .cells #[.int .i64 a0_0, .int .i64 a0_1, .int .i64 a0_2, .int .i64 a0_3, .int .u32 a0_4, .int .u32 a0_5, .int .u8 a0_6] 42 (0, 0)) (by (with_reducible repeat (first | refine blk_drewN ?_ _ | refine blk_drew ?_ | refine blk_alloc ?_ _)); exact BK236.out)) : gb236 ≠ gb253)); have n8_ := Aside0.mk ((by rw [hg]; exact Nat.ne_of_gt (blk_lt (g := gb236) (o := .cells #[.int .i64 a0_0, .int .i64 a0_1, .int .i64 a0_2, .int .i64 a0_3, .int .u32 a0_4, .int .u32 a0_5, .int .u8 a0_6] 42 (0, 0)) (by (with_reducible repeat (first | refine blk_drewN ?_ _ | refine blk_drew ?_ | refine blk_alloc ?_ _)); exact BK236.out)) : gb253 ≠ gb236)); have n9_ := Aside0.mk ((by rw [hg]; exact Nat.ne_of_lt (blk_lt (g := gb237) (o := .cells #[.int .i64 a0_0, .int .i64 a0_1, .int .i64 a0_2, .int .i64 a0_3] 23 (0, 0)) (by (with_reducible repeat (first | refine blk_drewN ?_ _ | refine blk_drew ?_ | refine blk_alloc ?_ _)); exact BK237.out)) : gb237 ≠ gb253)); have n10_ := Aside0.mk ((by rw [hg]; exact Nat.ne_of_gt (blk_lt (g := gb237) (o := .cells #[.int .i64 a0_0, .int .i64 a0_1, .int .i64 a0_2, .int .i64 a0_3] 23 (0, 0)) (by (with_reducible repeat (first | refine blk_drewN ?_ _ | refine blk_drew ?_ | refine blk_alloc ?_ _)); exact BK237.out)) : gb253 ≠ gb237)); have n11_ := Aside0.mk ((by rw [hg]; exact Nat.ne_of_lt (blk_lt (g := gb246) (o := .cells #[.int .u32 t240, .int .u32 t241, .int .i64 t242, .int .i64 t243, .int .i64 t244] 27 (0, 0)) (by (with_reducible repeat (first | refine blk_drewN ?_ _ | refine blk_drew ?_ | refine blk_alloc ?_ _)); exact BK246.out)) : gb246 ≠ gb253)); have n12_ := Aside0.mk ((by rw [hg]; exact Nat.ne_of_gt (blk_lt (g := gb246) (o := .cells #[.int .u32 t240, .int .u32 t241, .int .i64 t242, .int .i64 t243, .int .i64 t244] 27 (0, 0)) (by (with_reducible repeat (first | refine blk_drewN ?_ _ | refine blk_drew ?_ | refine blk_alloc ?_ _)); exact BK246.out)) : gb253 ≠ gb246)); clear BK236; clear BK237; clear BK246; clear HB; have BK236 := n0_; have BK237 := n1_; have BK246 := n2_; have HB := n3_; have BK253 := n4_; have GW253 := n5_; have GE253 := n6_; have NB236_253 := n7_; have NB253_236 := n8_; have NB237_253 := n9_; have NB253_237 := n10_; have NB246_253 := n11_; have NB253_246 := n12_; clear n0_ n1_ n2_ n3_ n4_ n5_ n6_ n7_ n8_ n9_ n10_ n11_ n12_; clear hb hbox hg; have hnb51 := NB253_236.out; have hnc51 := NB236_253.out; have hnb52 := NB253_237.out; have hnc52 := NB237_253.out; have hnb53 := NB253_246.out; have hnc53 := NB246_253.out; have hcz54_0 : w50.cell? ⟨gb253, 0, none⟩ = some (.int .u32 0) := (blk_cell BK253.out 0).trans rfl; have hcz54_1 : w50.cell? ⟨gb253, 1, none⟩ = some (.int .u32 0) := (blk_cell BK253.out 1).trans rfl; have hcz54_2 : w50.cell? ⟨gb253, 2, none⟩ = some (.int .i64 0) := (blk_cell BK253.out 2).trans rfl; have hcz54_3 : w50.cell? ⟨gb253, 3, none⟩ = some (.int .i64 0) := (blk_cell BK253.out 3).trans rfl; have hcz54_4 : w50.cell? ⟨gb253, 4, none⟩ = some (.int .i64 0) := (blk_cell BK253.out 4).trans rfl; have hfz54_0 := blk_frozen BK253.out 0; have hfz54_1 := blk_frozen BK253.out 1; have hfz54_2 := blk_frozen BK253.out 2; have hfz54_3 := blk_frozen BK253.out 3; have hfz54_4 := blk_frozen BK253.out 4))
        go_loopg [12] kj2 (fun kq v12 w' => ∃ (x12_2 : Int) (x247000_2 : Int) (x247001_2 : Int) (x247002_2 : Int) (x247003_2 : Int) (x247004_2 : Int) (x254000_2 : Int) (x254001_2 : Int) (x254002_2 : Int) (x254003_2 : Int) (x254004_2 : Int), v12 = .int .i64 x12_2 ∧ Aside0 (stolonlaw10_QuerierOne.l0 kq a0_4 a0_5 a0_6 t238 x12_2 a0_0 a0_1 a0_2 a0_3 x247000_2 x247001_2 x247002_2 x247003_2 x247004_2 x254000_2 x254001_2 x254002_2 x254003_2 x254004_2 = some r) ∧ Aside0 (kq ≤ kj2) ∧ Aside0 (w'.heap[gb236]? = some (.cells #[.int .i64 a0_0, .int .i64 a0_1, .int .i64 a0_2, .int .i64 a0_3, .int .u32 a0_4, .int .u32 a0_5, .int .u8 a0_6] 42 (0, 0))) ∧ Aside0 (w'.heap[gb237]? = some (.cells #[.int .i64 a0_0, .int .i64 a0_1, .int .i64 a0_2, .int .i64 a0_3] 23 (0, 0))) ∧ Aside0 (w'.heap[gb246]? = some (.cells #[.int .u32 x247000_2, .int .u32 x247001_2, .int .i64 x247002_2, .int .i64 x247003_2, .int .i64 x247004_2] 27 (0, 0))) ∧ Aside0 (w'.heap[gb253]? = some (.cells #[.int .u32 x254000_2, .int .u32 x254001_2, .int .i64 x254002_2, .int .i64 x254003_2, .int .i64 x254004_2] 27 (0, 0))) ∧ Aside0 (Below w.heap.size w w'))
        case atStart => exact ⟨(0), (t240), (t241), (t242), (t243), (t244), (t247), (t248), (t249), (t250), (t251), (by first | rfl | (simp; done) | (simp [*]; done)), H', ⟨Nat.le_refl _⟩, ⟨by (with_reducible repeat (first | refine blk_drewN ?_ _ | refine blk_drew ?_ | refine blk_alloc ?_ _)); refine blk_far ?_ NB236_253.out _; (with_reducible repeat (first | refine blk_drewN ?_ _ | refine blk_drew ?_ | refine blk_alloc ?_ _)); refine blk_far ?_ NB236_253.out _; (with_reducible repeat (first | refine blk_drewN ?_ _ | refine blk_drew ?_ | refine blk_alloc ?_ _)); refine blk_far ?_ NB236_253.out _; (with_reducible repeat (first | refine blk_drewN ?_ _ | refine blk_drew ?_ | refine blk_alloc ?_ _)); refine blk_far ?_ NB236_253.out _; (with_reducible repeat (first | refine blk_drewN ?_ _ | refine blk_drew ?_ | refine blk_alloc ?_ _)); refine blk_far ?_ NB236_253.out _; (with_reducible repeat (first | refine blk_drewN ?_ _ | refine blk_drew ?_ | refine blk_alloc ?_ _)); exact BK236.out⟩, ⟨by (with_reducible repeat (first | refine blk_drewN ?_ _ | refine blk_drew ?_ | refine blk_alloc ?_ _)); refine blk_far ?_ NB237_253.out _; (with_reducible repeat (first | refine blk_drewN ?_ _ | refine blk_drew ?_ | refine blk_alloc ?_ _)); refine blk_far ?_ NB237_253.out _; (with_reducible repeat (first | refine blk_drewN ?_ _ | refine blk_drew ?_ | refine blk_alloc ?_ _)); refine blk_far ?_ NB237_253.out _; (with_reducible repeat (first | refine blk_drewN ?_ _ | refine blk_drew ?_ | refine blk_alloc ?_ _)); refine blk_far ?_ NB237_253.out _; (with_reducible repeat (first | refine blk_drewN ?_ _ | refine blk_drew ?_ | refine blk_alloc ?_ _)); refine blk_far ?_ NB237_253.out _; (with_reducible repeat (first | refine blk_drewN ?_ _ | refine blk_drew ?_ | refine blk_alloc ?_ _)); exact BK237.out⟩, ⟨by (with_reducible repeat (first | refine blk_drewN ?_ _ | refine blk_drew ?_ | refine blk_alloc ?_ _)); refine blk_far ?_ NB246_253.out _; (with_reducible repeat (first | refine blk_drewN ?_ _ | refine blk_drew ?_ | refine blk_alloc ?_ _)); refine blk_far ?_ NB246_253.out _; (with_reducible repeat (first | refine blk_drewN ?_ _ | refine blk_drew ?_ | refine blk_alloc ?_ _)); refine blk_far ?_ NB246_253.out _; (with_reducible repeat (first | refine blk_drewN ?_ _ | refine blk_drew ?_ | refine blk_alloc ?_ _)); refine blk_far ?_ NB246_253.out _; (with_reducible repeat (first | refine blk_drewN ?_ _ | refine blk_drew ?_ | refine blk_alloc ?_ _)); refine blk_far ?_ NB246_253.out _; (with_reducible repeat (first | refine blk_drewN ?_ _ | refine blk_drew ?_ | refine blk_alloc ?_ _)); exact BK246.out⟩, ⟨by (with_reducible repeat (first | refine blk_drewN ?_ _ | refine blk_drew ?_ | refine blk_alloc ?_ _)); refine blk_put (cs := #[.int .u32 t247, .int .u32 t248, .int .i64 t249, .int .i64 t250, .int .i64 0]) ?_ 4 _ rfl; (with_reducible repeat (first | refine blk_drewN ?_ _ | refine blk_drew ?_ | refine blk_alloc ?_ _)); refine blk_put (cs := #[.int .u32 t247, .int .u32 t248, .int .i64 t249, .int .i64 0, .int .i64 0]) ?_ 3 _ rfl; (with_reducible repeat (first | refine blk_drewN ?_ _ | refine blk_drew ?_ | refine blk_alloc ?_ _)); refine blk_put (cs := #[.int .u32 t247, .int .u32 t248, .int .i64 0, .int .i64 0, .int .i64 0]) ?_ 2 _ rfl; (with_reducible repeat (first | refine blk_drewN ?_ _ | refine blk_drew ?_ | refine blk_alloc ?_ _)); refine blk_put (cs := #[.int .u32 t247, .int .u32 0, .int .i64 0, .int .i64 0, .int .i64 0]) ?_ 1 _ rfl; (with_reducible repeat (first | refine blk_drewN ?_ _ | refine blk_drew ?_ | refine blk_alloc ?_ _)); refine blk_put (cs := #[.int .u32 0, .int .u32 0, .int .i64 0, .int .i64 0, .int .i64 0]) ?_ 0 _ rfl; (with_reducible repeat (first | refine blk_drewN ?_ _ | refine blk_drew ?_ | refine blk_alloc ?_ _)); exact BK253.out⟩, ⟨by repeat (first | (with_reducible first | exact HB.out | apply below_alloc | apply pw_below_drewN | apply below_drew1 | refine below_set ?_ GE236.out | refine below_set ?_ GE237.out | refine below_set ?_ GE246.out | refine below_set ?_ GE253.out) | exact HB.out)⟩⟩
        case round =>
          clear H'
          try clear c1
          try clear c2
          try clear p2
          try clear c3
          try clear c4
          try clear c5
          try clear c6
          try clear c7
          try clear c9
          try clear c10
          try clear c12
          try clear c13
          try clear c13b0
          try clear c13b1
          try clear c14
          try clear c17
          try clear c17b0
          try clear c18
          try clear c21
          try clear c21b0
          try clear c22
          try clear c26
          try clear c26b0
          try clear c27
          try clear c31
          try clear c35
          try clear c38
          try clear c41
          try clear c45
          try clear c46
          try clear c51
          try clear c52
          try clear c53
          try clear hcz15_0
          try clear hcz15_1
          try clear hcz15_2
          try clear hcz15_3
          try clear hcz19_0
          try clear hcz19_1
          try clear hcz19_2
          try clear hcz19_3
          try clear hcz23_0
          try clear hcz23_1
          try clear hcz23_2
          try clear hcz23_3
          try clear hcz25_0
          try clear hcz25_1
          try clear hcz25_2
          try clear hcz25_3
          try clear hcz28_0
          try clear hcz28_1
          try clear hcz28_2
          try clear hcz28_3
          try clear hcz30_0
          try clear hcz30_1
          try clear hcz30_2
          try clear hcz30_3
          try clear hcz32_0
          try clear hcz32_1
          try clear hcz32_2
          try clear hcz32_3
          try clear hcz34_0
          try clear hcz34_1
          try clear hcz34_2
          try clear hcz34_3
          try clear hcz36_0
          try clear hcz36_1
          try clear hcz36_2
          try clear hcz36_3
          try clear hcz42_0
          try clear hcz42_1
          try clear hcz42_2
          try clear hcz42_3
          try clear hcz47_0
          try clear hcz47_1
          try clear hcz47_2
          try clear hcz47_3
          try clear hcz47_4
          try clear hcz48_0
          try clear hcz48_1
          try clear hcz48_2
          try clear hcz48_3
          try clear hcz54_0
          try clear hcz54_1
          try clear hcz54_2
          try clear hcz54_3
          try clear hcz54_4
          try clear hcz5_0
          try clear hcz5_1
          try clear hcz5_2
          try clear hcz5_3
          try clear hcz5_4
          try clear hcz5_5
          try clear hcz5_6
          try clear hcz8_0
          try clear hcz8_1
          try clear hcz8_2
          try clear hcz8_3
          try clear hcz9_0
          try clear hcz9_1
          try clear hcz9_2
          try clear hcz9_3
          try clear hcz9_4
          try clear hcz9_5
          try clear hcz9_6
          try clear hfz15_0
          try clear hfz15_1
          try clear hfz15_2
          try clear hfz15_3
          try clear hfz19_0
          try clear hfz19_1
          try clear hfz19_2
          try clear hfz19_3
          try clear hfz23_0
          try clear hfz23_1
          try clear hfz23_2
          try clear hfz23_3
          try clear hfz25_0
          try clear hfz25_1
          try clear hfz25_2
          try clear hfz25_3
          try clear hfz28_0
          try clear hfz28_1
          try clear hfz28_2
          try clear hfz28_3
          try clear hfz30_0
          try clear hfz30_1
          try clear hfz30_2
          try clear hfz30_3
          try clear hfz32_0
          try clear hfz32_1
          try clear hfz32_2
          try clear hfz32_3
          try clear hfz34_0
          try clear hfz34_1
          try clear hfz34_2
          try clear hfz34_3
          try clear hfz36_0
          try clear hfz36_1
          try clear hfz36_2
          try clear hfz36_3
          try clear hfz42_0
          try clear hfz42_1
          try clear hfz42_2
          try clear hfz42_3
          try clear hfz47_0
          try clear hfz47_1
          try clear hfz47_2
          try clear hfz47_3
          try clear hfz47_4
          try clear hfz48_0
          try clear hfz48_1
          try clear hfz48_2
          try clear hfz48_3
          try clear hfz54_0
          try clear hfz54_1
          try clear hfz54_2
          try clear hfz54_3
          try clear hfz54_4
          try clear hfz5_0
          try clear hfz5_1
          try clear hfz5_2
          try clear hfz5_3
          try clear hfz5_4
          try clear hfz5_5
          try clear hfz5_6
          try clear hfz8_0
          try clear hfz8_1
          try clear hfz8_2
          try clear hfz8_3
          try clear hfz9_0
          try clear hfz9_1
          try clear hfz9_2
          try clear hfz9_3
          try clear hfz9_4
          try clear hfz9_5
          try clear hfz9_6
          try clear p2
          obtain ⟨x12_2, x247000_2, x247001_2, x247002_2, x247003_2, x247004_2, x254000_2, x254001_2, x254002_2, x254003_2, x254004_2, rfl, HA, HK2, BK236, BK237, BK246, BK253, HB⟩ := hrel
          cases gk with
          | zero => exact absurd HA.out (by simp [stolonlaw10_QuerierOne.l0])
          | succ k2 =>
            have H := HA.out
            clear HA
            simp only [stolonlaw10_QuerierOne.l0] at H
            by_cases c55 : x12_2 ≤ (wrap64 (a0_6))
            · rw [if_pos c55] at H
              have c55b0 : decide (x12_2 ≤ (wrap64 (a0_6))) = true := decide_eq_true c55
              clear c55
              replace H := Option.bind_eq_some_iff.mp H
              obtain ⟨⟨t256, t257, t258, t259, t260, t261⟩, A560, H⟩ := H
              replace H : ((querier_Tick.f a0_0 a0_1 a0_2 a0_3 x254000_2 x254001_2 x254002_2 x254003_2 x254004_2).bind fun bt263 => (if bt263.2.2.2.2.2 = true then (stolonlaw10_QuerierOne.j2 k2 a0_4 a0_5 a0_6 t238 x12_2 t261 bt263.2.2.2.2.2 (decide (x12_2 > 0)) a0_0 a0_1 a0_2 a0_3 t256 t257 t258 t259 t260 bt263.1 bt263.2.1 bt263.2.2.1 bt263.2.2.2.1 bt263.2.2.2.2.1) else (stolonlaw10_QuerierOne.j2 k2 a0_4 a0_5 a0_6 t238 x12_2 t261 bt263.2.2.2.2.2 false a0_0 a0_1 a0_2 a0_3 t256 t257 t258 t259 t260 bt263.1 bt263.2.1 bt263.2.2.1 bt263.2.2.2.1 bt263.2.2.2.2.1))) = some r := H
              have A56 := Aside0.mk A560
              clear A560
              replace H := Option.bind_eq_some_iff.mp H
              obtain ⟨⟨t263, t264, t265, t266, t267, t268⟩, A570, H⟩ := H
              replace H : (if t268 = true then (stolonlaw10_QuerierOne.j2 k2 a0_4 a0_5 a0_6 t238 x12_2 t261 t268 (decide (x12_2 > 0)) a0_0 a0_1 a0_2 a0_3 t256 t257 t258 t259 t260 t263 t264 t265 t266 t267) else (stolonlaw10_QuerierOne.j2 k2 a0_4 a0_5 a0_6 t238 x12_2 t261 t268 false a0_0 a0_1 a0_2 a0_3 t256 t257 t258 t259 t260 t263 t264 t265 t266 t267)) = some r := H
              have A57 := Aside0.mk A570
              clear A570
              have HC58 := Aside0.mk H
              clear H
              have hnb59 := NB237_236.out
              have hnc59 := NB236_237.out
              have hnb60 := NB237_246.out
              have hnc60 := NB246_237.out
              have hnb61 := NB237_253.out
              have hnc61 := NB253_237.out
              have hcz62_0 : wr.cell? ⟨gb237, 0, none⟩ = some (.int .i64 a0_0) := (blk_cell BK237.out 0).trans rfl
              have hcz62_1 : wr.cell? ⟨gb237, 1, none⟩ = some (.int .i64 a0_1) := (blk_cell BK237.out 1).trans rfl
              have hcz62_2 : wr.cell? ⟨gb237, 2, none⟩ = some (.int .i64 a0_2) := (blk_cell BK237.out 2).trans rfl
              have hcz62_3 : wr.cell? ⟨gb237, 3, none⟩ = some (.int .i64 a0_3) := (blk_cell BK237.out 3).trans rfl
              have hfz62_0 := blk_frozen BK237.out 0
              have hfz62_1 := blk_frozen BK237.out 1
              have hfz62_2 := blk_frozen BK237.out 2
              have hfz62_3 := blk_frozen BK237.out 3
              have hnb63 := NB246_236.out
              have hnc63 := NB236_246.out
              have hnb64 := NB246_253.out
              have hnc64 := NB253_246.out
              have hcz65_0 : wr.cell? ⟨gb246, 0, none⟩ = some (.int .u32 x247000_2) := (blk_cell BK246.out 0).trans rfl
              have hcz65_1 : wr.cell? ⟨gb246, 1, none⟩ = some (.int .u32 x247001_2) := (blk_cell BK246.out 1).trans rfl
              have hcz65_2 : wr.cell? ⟨gb246, 2, none⟩ = some (.int .i64 x247002_2) := (blk_cell BK246.out 2).trans rfl
              have hcz65_3 : wr.cell? ⟨gb246, 3, none⟩ = some (.int .i64 x247003_2) := (blk_cell BK246.out 3).trans rfl
              have hcz65_4 : wr.cell? ⟨gb246, 4, none⟩ = some (.int .i64 x247004_2) := (blk_cell BK246.out 4).trans rfl
              have hfz65_0 := blk_frozen BK246.out 0
              have hfz65_1 := blk_frozen BK246.out 1
              have hfz65_2 := blk_frozen BK246.out 2
              have hfz65_3 := blk_frozen BK246.out 3
              have hfz65_4 := blk_frozen BK246.out 4
              go_upto_region 15 with (first | ((with_reducible refine gate_callee (f := 17) rfl ?_); refine goesL_ (some 78) rfl rfl Try.func17 (by kernel_rfl) rfl #[.agg #[.int .i64 a0_0, .int .i64 a0_1, .int .i64 a0_2, .int .i64 a0_3], .agg #[.int .u32 x247000_2, .int .u32 x247001_2, .int .i64 x247002_2, .int .i64 x247003_2, .int .i64 x247004_2]] rfl (by (try simp only [List.map_toArray, List.map_cons, List.map_nil]); first | done | rfl | (simp only [List.length_drop, List.length_take]; rfl)) ?_; (with_reducible refine (querier_Tick.calls a0_0 a0_1 a0_2 a0_3 x247000_2 x247001_2 x247002_2 x247003_2 x247004_2 t256 t257 t258 t259 t260 t261 _ A56.out).mono ?_); rintro e w66 ⟨rfl, hb⟩; refine ⟨_, rfl, ?_⟩; have n0_ := Aside0.mk (blk_below (g := gb236) (o := .cells #[.int .i64 a0_0, .int .i64 a0_1, .int .i64 a0_2, .int .i64 a0_3, .int .u32 a0_4, .int .u32 a0_5, .int .u8 a0_6] 42 (0, 0)) (by (with_reducible repeat (first | refine blk_drewN ?_ _ | refine blk_drew ?_ | refine blk_alloc ?_ _)); exact BK236.out) hb); have n1_ := Aside0.mk (blk_below (g := gb237) (o := .cells #[.int .i64 a0_0, .int .i64 a0_1, .int .i64 a0_2, .int .i64 a0_3] 23 (0, 0)) (by (with_reducible repeat (first | refine blk_drewN ?_ _ | refine blk_drew ?_ | refine blk_alloc ?_ _)); exact BK237.out) hb); have n2_ := Aside0.mk (blk_below (g := gb246) (o := .cells #[.int .u32 x247000_2, .int .u32 x247001_2, .int .i64 x247002_2, .int .i64 x247003_2, .int .i64 x247004_2] 27 (0, 0)) (by (with_reducible repeat (first | refine blk_drewN ?_ _ | refine blk_drew ?_ | refine blk_alloc ?_ _)); exact BK246.out) hb); have n3_ := Aside0.mk (blk_below (g := gb253) (o := .cells #[.int .u32 x254000_2, .int .u32 x254001_2, .int .i64 x254002_2, .int .i64 x254003_2, .int .i64 x254004_2] 27 (0, 0)) (by (with_reducible repeat (first | refine blk_drewN ?_ _ | refine blk_drew ?_ | refine blk_alloc ?_ _)); exact BK253.out) hb); have n4_ := Aside0.mk (below_step (by repeat (first | (with_reducible first | exact HB.out | apply below_alloc | apply pw_below_drewN | apply below_drew1 | refine below_set ?_ GE236.out | refine below_set ?_ GE237.out | refine below_set ?_ GE246.out | refine below_set ?_ GE253.out) | exact HB.out)) hb); clear BK236; clear BK237; clear BK246; clear BK253; clear HB; have BK236 := n0_; have BK237 := n1_; have BK246 := n2_; have BK253 := n3_; have HB := n4_; clear n0_ n1_ n2_ n3_ n4_; (try clear hb); (try clear hb2); (try clear hk); (try clear hi)) | ((with_reducible refine gate_dst (N := 13) rfl ?_); refine box_event ?hg (N := 13) ?hd (cs := #[.int .u32 0, .int .u32 0, .int .i64 0, .int .i64 0, .int .i64 0]) (t := 27) ?hr ?_; (case hd => rfl); (case hg => rfl); (case hr => first | (go_simp; done) | (go_simp; rfl)); intro gb262 hg w67 hbox hb; have n0_ := Aside0.mk (blk_below (g := gb236) (o := .cells #[.int .i64 a0_0, .int .i64 a0_1, .int .i64 a0_2, .int .i64 a0_3, .int .u32 a0_4, .int .u32 a0_5, .int .u8 a0_6] 42 (0, 0)) (by (with_reducible repeat (first | refine blk_drewN ?_ _ | refine blk_drew ?_ | refine blk_alloc ?_ _)); exact BK236.out) hb); have n1_ := Aside0.mk (blk_below (g := gb237) (o := .cells #[.int .i64 a0_0, .int .i64 a0_1, .int .i64 a0_2, .int .i64 a0_3] 23 (0, 0)) (by (with_reducible repeat (first | refine blk_drewN ?_ _ | refine blk_drew ?_ | refine blk_alloc ?_ _)); exact BK237.out) hb); have n2_ := Aside0.mk (blk_below (g := gb246) (o := .cells #[.int .u32 x247000_2, .int .u32 x247001_2, .int .i64 x247002_2, .int .i64 x247003_2, .int .i64 x247004_2] 27 (0, 0)) (by (with_reducible repeat (first | refine blk_drewN ?_ _ | refine blk_drew ?_ | refine blk_alloc ?_ _)); exact BK246.out) hb); have n3_ := Aside0.mk (blk_below (g := gb253) (o := .cells #[.int .u32 x254000_2, .int .u32 x254001_2, .int .i64 x254002_2, .int .i64 x254003_2, .int .i64 x254004_2] 27 (0, 0)) (by (with_reducible repeat (first | refine blk_drewN ?_ _ | refine blk_drew ?_ | refine blk_alloc ?_ _)); exact BK253.out) hb); have n4_ := Aside0.mk (below_step (by repeat (first | (with_reducible first | exact HB.out | apply below_alloc | apply pw_below_drewN | apply below_drew1 | refine below_set ?_ GE236.out | refine below_set ?_ GE237.out | refine below_set ?_ GE246.out | refine below_set ?_ GE253.out) | exact HB.out)) hb); have n5_ := Aside0.mk (hbox); have n6_ := Aside0.mk ((by rw [hg]; exact (below_size (by repeat (first | (with_reducible first | exact HB.out | apply below_alloc | apply pw_below_drewN | apply below_drew1 | refine below_set ?_ GE236.out | refine below_set ?_ GE237.out | refine below_set ?_ GE246.out | refine below_set ?_ GE253.out) | exact HB.out))) : w.heap.size ≤ gb262)); have n7_ := Aside0.mk ((by rw [hg]; exact (below_size (by repeat (first | (with_reducible first | exact HB.out | apply below_alloc | apply pw_below_drewN | apply below_drew1 | refine below_set ?_ GE236.out | refine below_set ?_ GE237.out | refine below_set ?_ GE246.out | refine below_set ?_ GE253.out) | exact HB.out))) : w.heap.size ≤ gb262)); have n8_ := Aside0.mk ((by rw [hg]; exact Nat.ne_of_lt (blk_lt (g := gb236) (o := .cells #[.int .i64 a0_0, .int .i64 a0_1, .int .i64 a0_2, .int .i64 a0_3, .int .u32 a0_4, .int .u32 a0_5, .int .u8 a0_6] 42 (0, 0)) (by (with_reducible repeat (first | refine blk_drewN ?_ _ | refine blk_drew ?_ | refine blk_alloc ?_ _)); exact BK236.out)) : gb236 ≠ gb262)); have n9_ := Aside0.mk ((by rw [hg]; exact Nat.ne_of_gt (blk_lt (g := gb236) (o := .cells #[.int .i64 a0_0, .int .i64 a0_1, .int .i64 a0_2, .int .i64 a0_3, .int .u32 a0_4, .int .u32 a0_5, .int .u8 a0_6] 42 (0, 0)) (by (with_reducible repeat (first | refine blk_drewN ?_ _ | refine blk_drew ?_ | refine blk_alloc ?_ _)); exact BK236.out)) : gb262 ≠ gb236)); have n10_ := Aside0.mk ((by rw [hg]; exact Nat.ne_of_lt (blk_lt (g := gb237) (o := .cells #[.int .i64 a0_0, .int .i64 a0_1, .int .i64 a0_2, .int .i64 a0_3] 23 (0, 0)) (by (with_reducible repeat (first | refine blk_drewN ?_ _ | refine blk_drew ?_ | refine blk_alloc ?_ _)); exact BK237.out)) : gb237 ≠ gb262)); have n11_ := Aside0.mk ((by rw [hg]; exact Nat.ne_of_gt (blk_lt (g := gb237) (o := .cells #[.int .i64 a0_0, .int .i64 a0_1, .int .i64 a0_2, .int .i64 a0_3] 23 (0, 0)) (by (with_reducible repeat (first | refine blk_drewN ?_ _ | refine blk_drew ?_ | refine blk_alloc ?_ _)); exact BK237.out)) : gb262 ≠ gb237)); have n12_ := Aside0.mk ((by rw [hg]; exact Nat.ne_of_lt (blk_lt (g := gb246) (o := .cells #[.int .u32 x247000_2, .int .u32 x247001_2, .int .i64 x247002_2, .int .i64 x247003_2, .int .i64 x247004_2] 27 (0, 0)) (by (with_reducible repeat (first | refine blk_drewN ?_ _ | refine blk_drew ?_ | refine blk_alloc ?_ _)); exact BK246.out)) : gb246 ≠ gb262)); have n13_ := Aside0.mk ((by rw [hg]; exact Nat.ne_of_gt (blk_lt (g := gb246) (o := .cells #[.int .u32 x247000_2, .int .u32 x247001_2, .int .i64 x247002_2, .int .i64 x247003_2, .int .i64 x247004_2] 27 (0, 0)) (by (with_reducible repeat (first | refine blk_drewN ?_ _ | refine blk_drew ?_ | refine blk_alloc ?_ _)); exact BK246.out)) : gb262 ≠ gb246)); have n14_ := Aside0.mk ((by rw [hg]; exact Nat.ne_of_lt (blk_lt (g := gb253) (o := .cells #[.int .u32 x254000_2, .int .u32 x254001_2, .int .i64 x254002_2, .int .i64 x254003_2, .int .i64 x254004_2] 27 (0, 0)) (by (with_reducible repeat (first | refine blk_drewN ?_ _ | refine blk_drew ?_ | refine blk_alloc ?_ _)); exact BK253.out)) : gb253 ≠ gb262)); have n15_ := Aside0.mk ((by rw [hg]; exact Nat.ne_of_gt (blk_lt (g := gb253) (o := .cells #[.int .u32 x254000_2, .int .u32 x254001_2, .int .i64 x254002_2, .int .i64 x254003_2, .int .i64 x254004_2] 27 (0, 0)) (by (with_reducible repeat (first | refine blk_drewN ?_ _ | refine blk_drew ?_ | refine blk_alloc ?_ _)); exact BK253.out)) : gb262 ≠ gb253)); clear BK236; clear BK237; clear BK246; clear BK253; clear HB; have BK236 := n0_; have BK237 := n1_; have BK246 := n2_; have BK253 := n3_; have HB := n4_; have BK262 := n5_; have GW262 := n6_; have GE262 := n7_; have NB236_262 := n8_; have NB262_236 := n9_; have NB237_262 := n10_; have NB262_237 := n11_; have NB246_262 := n12_; have NB262_246 := n13_; have NB253_262 := n14_; have NB262_253 := n15_; clear n0_ n1_ n2_ n3_ n4_ n5_ n6_ n7_ n8_ n9_ n10_ n11_ n12_ n13_ n14_ n15_; clear hb hbox hg; have hnb68 := NB262_236.out; have hnc68 := NB236_262.out; have hnb69 := NB262_237.out; have hnc69 := NB237_262.out; have hnb70 := NB262_246.out; have hnc70 := NB246_262.out; have hnb71 := NB262_253.out; have hnc71 := NB253_262.out; have hcz72_0 : w67.cell? ⟨gb262, 0, none⟩ = some (.int .u32 0) := (blk_cell BK262.out 0).trans rfl; have hcz72_1 : w67.cell? ⟨gb262, 1, none⟩ = some (.int .u32 0) := (blk_cell BK262.out 1).trans rfl; have hcz72_2 : w67.cell? ⟨gb262, 2, none⟩ = some (.int .i64 0) := (blk_cell BK262.out 2).trans rfl; have hcz72_3 : w67.cell? ⟨gb262, 3, none⟩ = some (.int .i64 0) := (blk_cell BK262.out 3).trans rfl; have hcz72_4 : w67.cell? ⟨gb262, 4, none⟩ = some (.int .i64 0) := (blk_cell BK262.out 4).trans rfl; have hfz72_0 := blk_frozen BK262.out 0; have hfz72_1 := blk_frozen BK262.out 1; have hfz72_2 := blk_frozen BK262.out 2; have hfz72_3 := blk_frozen BK262.out 3; have hfz72_4 := blk_frozen BK262.out 4; have hcz73_0 : w67.cell? ⟨gb237, 0, none⟩ = some (.int .i64 a0_0) := (blk_cell BK237.out 0).trans rfl; have hcz73_1 : w67.cell? ⟨gb237, 1, none⟩ = some (.int .i64 a0_1) := (blk_cell BK237.out 1).trans rfl; have hcz73_2 : w67.cell? ⟨gb237, 2, none⟩ = some (.int .i64 a0_2) := (blk_cell BK237.out 2).trans rfl; have hcz73_3 : w67.cell? ⟨gb237, 3, none⟩ = some (.int .i64 a0_3) := (blk_cell BK237.out 3).trans rfl; have hfz73_0 := blk_frozen BK237.out 0; have hfz73_1 := blk_frozen BK237.out 1; have hfz73_2 := blk_frozen BK237.out 2; have hfz73_3 := blk_frozen BK237.out 3; have hnb74 := NB253_236.out; have hnc74 := NB236_253.out; have hcz75_0 : w67.cell? ⟨gb253, 0, none⟩ = some (.int .u32 x254000_2) := (blk_cell BK253.out 0).trans rfl; have hcz75_1 : w67.cell? ⟨gb253, 1, none⟩ = some (.int .u32 x254001_2) := (blk_cell BK253.out 1).trans rfl; have hcz75_2 : w67.cell? ⟨gb253, 2, none⟩ = some (.int .i64 x254002_2) := (blk_cell BK253.out 2).trans rfl; have hcz75_3 : w67.cell? ⟨gb253, 3, none⟩ = some (.int .i64 x254003_2) := (blk_cell BK253.out 3).trans rfl; have hcz75_4 : w67.cell? ⟨gb253, 4, none⟩ = some (.int .i64 x254004_2) := (blk_cell BK253.out 4).trans rfl; have hfz75_0 := blk_frozen BK253.out 0; have hfz75_1 := blk_frozen BK253.out 1; have hfz75_2 := blk_frozen BK253.out 2; have hfz75_3 := blk_frozen BK253.out 3; have hfz75_4 := blk_frozen BK253.out 4) | ((with_reducible refine gate_callee (f := 17) rfl ?_); refine goesL_ (some 84) rfl rfl Try.func17 (by kernel_rfl) rfl #[.agg #[.int .i64 a0_0, .int .i64 a0_1, .int .i64 a0_2, .int .i64 a0_3], .agg #[.int .u32 x254000_2, .int .u32 x254001_2, .int .i64 x254002_2, .int .i64 x254003_2, .int .i64 x254004_2]] rfl (by (try simp only [List.map_toArray, List.map_cons, List.map_nil]); first | done | rfl | (simp only [List.length_drop, List.length_take]; rfl)) ?_; (with_reducible refine (querier_Tick.calls a0_0 a0_1 a0_2 a0_3 x254000_2 x254001_2 x254002_2 x254003_2 x254004_2 t263 t264 t265 t266 t267 t268 _ A57.out).mono ?_); rintro e w76 ⟨rfl, hb⟩; refine ⟨_, rfl, ?_⟩; have n0_ := Aside0.mk (blk_below (g := gb236) (o := .cells #[.int .i64 a0_0, .int .i64 a0_1, .int .i64 a0_2, .int .i64 a0_3, .int .u32 a0_4, .int .u32 a0_5, .int .u8 a0_6] 42 (0, 0)) (by (with_reducible repeat (first | refine blk_drewN ?_ _ | refine blk_drew ?_ | refine blk_alloc ?_ _)); refine blk_far ?_ NB236_262.out _; (with_reducible repeat (first | refine blk_drewN ?_ _ | refine blk_drew ?_ | refine blk_alloc ?_ _)); refine blk_far ?_ NB236_262.out _; (with_reducible repeat (first | refine blk_drewN ?_ _ | refine blk_drew ?_ | refine blk_alloc ?_ _)); refine blk_far ?_ NB236_262.out _; (with_reducible repeat (first | refine blk_drewN ?_ _ | refine blk_drew ?_ | refine blk_alloc ?_ _)); refine blk_far ?_ NB236_262.out _; (with_reducible repeat (first | refine blk_drewN ?_ _ | refine blk_drew ?_ | refine blk_alloc ?_ _)); refine blk_far ?_ NB236_262.out _; (with_reducible repeat (first | refine blk_drewN ?_ _ | refine blk_drew ?_ | refine blk_alloc ?_ _)); exact BK236.out) hb); have n1_ := Aside0.mk (blk_below (g := gb237) (o := .cells #[.int .i64 a0_0, .int .i64 a0_1, .int .i64 a0_2, .int .i64 a0_3] 23 (0, 0)) (by (with_reducible repeat (first | refine blk_drewN ?_ _ | refine blk_drew ?_ | refine blk_alloc ?_ _)); refine blk_far ?_ NB237_262.out _; (with_reducible repeat (first | refine blk_drewN ?_ _ | refine blk_drew ?_ | refine blk_alloc ?_ _)); refine blk_far ?_ NB237_262.out _; (with_reducible repeat (first | refine blk_drewN ?_ _ | refine blk_drew ?_ | refine blk_alloc ?_ _)); refine blk_far ?_ NB237_262.out _; (with_reducible repeat (first | refine blk_drewN ?_ _ | refine blk_drew ?_ | refine blk_alloc ?_ _)); refine blk_far ?_ NB237_262.out _; (with_reducible repeat (first | refine blk_drewN ?_ _ | refine blk_drew ?_ | refine blk_alloc ?_ _)); refine blk_far ?_ NB237_262.out _; (with_reducible repeat (first | refine blk_drewN ?_ _ | refine blk_drew ?_ | refine blk_alloc ?_ _)); exact BK237.out) hb); have n2_ := Aside0.mk (blk_below (g := gb246) (o := .cells #[.int .u32 x247000_2, .int .u32 x247001_2, .int .i64 x247002_2, .int .i64 x247003_2, .int .i64 x247004_2] 27 (0, 0)) (by (with_reducible repeat (first | refine blk_drewN ?_ _ | refine blk_drew ?_ | refine blk_alloc ?_ _)); refine blk_far ?_ NB246_262.out _; (with_reducible repeat (first | refine blk_drewN ?_ _ | refine blk_drew ?_ | refine blk_alloc ?_ _)); refine blk_far ?_ NB246_262.out _; (with_reducible repeat (first | refine blk_drewN ?_ _ | refine blk_drew ?_ | refine blk_alloc ?_ _)); refine blk_far ?_ NB246_262.out _; (with_reducible repeat (first | refine blk_drewN ?_ _ | refine blk_drew ?_ | refine blk_alloc ?_ _)); refine blk_far ?_ NB246_262.out _; (with_reducible repeat (first | refine blk_drewN ?_ _ | refine blk_drew ?_ | refine blk_alloc ?_ _)); refine blk_far ?_ NB246_262.out _; (with_reducible repeat (first | refine blk_drewN ?_ _ | refine blk_drew ?_ | refine blk_alloc ?_ _)); exact BK246.out) hb); have n3_ := Aside0.mk (blk_below (g := gb253) (o := .cells #[.int .u32 x254000_2, .int .u32 x254001_2, .int .i64 x254002_2, .int .i64 x254003_2, .int .i64 x254004_2] 27 (0, 0)) (by (with_reducible repeat (first | refine blk_drewN ?_ _ | refine blk_drew ?_ | refine blk_alloc ?_ _)); refine blk_far ?_ NB253_262.out _; (with_reducible repeat (first | refine blk_drewN ?_ _ | refine blk_drew ?_ | refine blk_alloc ?_ _)); refine blk_far ?_ NB253_262.out _; (with_reducible repeat (first | refine blk_drewN ?_ _ | refine blk_drew ?_ | refine blk_alloc ?_ _)); refine blk_far ?_ NB253_262.out _; (with_reducible repeat (first | refine blk_drewN ?_ _ | refine blk_drew ?_ | refine blk_alloc ?_ _)); refine blk_far ?_ NB253_262.out _; (with_reducible repeat (first | refine blk_drewN ?_ _ | refine blk_drew ?_ | refine blk_alloc ?_ _)); refine blk_far ?_ NB253_262.out _; (with_reducible repeat (first | refine blk_drewN ?_ _ | refine blk_drew ?_ | refine blk_alloc ?_ _)); exact BK253.out) hb); have n4_ := Aside0.mk (blk_below (g := gb262) (o := .cells #[.int .u32 t256, .int .u32 t257, .int .i64 t258, .int .i64 t259, .int .i64 t260] 27 (0, 0)) (by (with_reducible repeat (first | refine blk_drewN ?_ _ | refine blk_drew ?_ | refine blk_alloc ?_ _)); refine blk_put (cs := #[.int .u32 t256, .int .u32 t257, .int .i64 t258, .int .i64 t259, .int .i64 0]) ?_ 4 _ rfl; (with_reducible repeat (first | refine blk_drewN ?_ _ | refine blk_drew ?_ | refine blk_alloc ?_ _)); refine blk_put (cs := #[.int .u32 t256, .int .u32 t257, .int .i64 t258, .int .i64 0, .int .i64 0]) ?_ 3 _ rfl; (with_reducible repeat (first | refine blk_drewN ?_ _ | refine blk_drew ?_ | refine blk_alloc ?_ _)); refine blk_put (cs := #[.int .u32 t256, .int .u32 t257, .int .i64 0, .int .i64 0, .int .i64 0]) ?_ 2 _ rfl; (with_reducible repeat (first | refine blk_drewN ?_ _ | refine blk_drew ?_ | refine blk_alloc ?_ _)); refine blk_put (cs := #[.int .u32 t256, .int .u32 0, .int .i64 0, .int .i64 0, .int .i64 0]) ?_ 1 _ rfl; (with_reducible repeat (first | refine blk_drewN ?_ _ | refine blk_drew ?_ | refine blk_alloc ?_ _)); refine blk_put (cs := #[.int .u32 0, .int .u32 0, .int .i64 0, .int .i64 0, .int .i64 0]) ?_ 0 _ rfl; (with_reducible repeat (first | refine blk_drewN ?_ _ | refine blk_drew ?_ | refine blk_alloc ?_ _)); exact BK262.out) hb); have n5_ := Aside0.mk (below_step (by repeat (first | (with_reducible first | exact HB.out | apply below_alloc | apply pw_below_drewN | apply below_drew1 | refine below_set ?_ GE236.out | refine below_set ?_ GE237.out | refine below_set ?_ GE246.out | refine below_set ?_ GE253.out | refine below_set ?_ GE262.out) | exact HB.out)) hb); clear BK236; clear BK237; clear BK246; clear BK253; clear BK262; clear HB; have BK236 := n0_; have BK237 := n1_; have BK246 := n2_; have BK253 := n3_; have BK262 := n4_; have HB := n5_; clear n0_ n1_ n2_ n3_ n4_ n5_; (try clear hb); (try clear hb2); (try clear hk); (try clear hi)) | ((with_reducible refine gate_dst (N := 15) rfl ?_); refine box_event ?hg (N := 15) ?hd (cs := #[.int .u32 0, .int .u32 0, .int .i64 0, .int .i64 0, .int .i64 0]) (t := 27) ?hr ?_; (case hd => rfl); (case hg => rfl); (case hr => first | (go_simp; done) | (go_simp; rfl)); intro gb269 hg w77 hbox hb; have n0_ := Aside0.mk (blk_below (g := gb236) (o := .cells #[.int .i64 a0_0, .int .i64 a0_1, .int .i64 a0_2, .int .i64 a0_3, .int .u32 a0_4, .int .u32 a0_5, .int .u8 a0_6] 42 (0, 0)) (by (with_reducible repeat (first | refine blk_drewN ?_ _ | refine blk_drew ?_ | refine blk_alloc ?_ _)); exact BK236.out) hb); have n1_ := Aside0.mk (blk_below (g := gb237) (o := .cells #[.int .i64 a0_0, .int .i64 a0_1, .int .i64 a0_2, .int .i64 a0_3] 23 (0, 0)) (by (with_reducible repeat (first | refine blk_drewN ?_ _ | refine blk_drew ?_ | refine blk_alloc ?_ _)); exact BK237.out) hb); have n2_ := Aside0.mk (blk_below (g := gb246) (o := .cells #[.int .u32 x247000_2, .int .u32 x247001_2, .int .i64 x247002_2, .int .i64 x247003_2, .int .i64 x247004_2] 27 (0, 0)) (by (with_reducible repeat (first | refine blk_drewN ?_ _ | refine blk_drew ?_ | refine blk_alloc ?_ _)); exact BK246.out) hb); have n3_ := Aside0.mk (blk_below (g := gb253) (o := .cells #[.int .u32 x254000_2, .int .u32 x254001_2, .int .i64 x254002_2, .int .i64 x254003_2, .int .i64 x254004_2] 27 (0, 0)) (by (with_reducible repeat (first | refine blk_drewN ?_ _ | refine blk_drew ?_ | refine blk_alloc ?_ _)); exact BK253.out) hb); have n4_ := Aside0.mk (blk_below (g := gb262) (o := .cells #[.int .u32 t256, .int .u32 t257, .int .i64 t258, .int .i64 t259, .int .i64 t260] 27 (0, 0)) (by (with_reducible repeat (first | refine blk_drewN ?_ _ | refine blk_drew ?_ | refine blk_alloc ?_ _)); exact BK262.out) hb); have n5_ := Aside0.mk (below_step (by repeat (first | (with_reducible first | exact HB.out | apply below_alloc | apply pw_below_drewN | apply below_drew1 | refine below_set ?_ GE236.out | refine below_set ?_ GE237.out | refine below_set ?_ GE246.out | refine below_set ?_ GE253.out | refine below_set ?_ GE262.out) | exact HB.out)) hb); have n6_ := Aside0.mk (hbox); have n7_ := Aside0.mk ((by rw [hg]; exact (below_size (by repeat (first | (with_reducible first | exact HB.out | apply below_alloc | apply pw_below_drewN | apply below_drew1 | refine below_set ?_ GE236.out | refine below_set ?_ GE237.out | refine below_set ?_ GE246.out | refine below_set ?_ GE253.out | refine below_set ?_ GE262.out) | exact HB.out))) : w.heap.size ≤ gb269)); have n8_ := Aside0.mk ((by rw [hg]; exact (below_size (by repeat (first | (with_reducible first | exact HB.out | apply below_alloc | apply pw_below_drewN | apply below_drew1 | refine below_set ?_ GE236.out | refine below_set ?_ GE237.out | refine below_set ?_ GE246.out | refine below_set ?_ GE253.out | refine below_set ?_ GE262.out) | exact HB.out))) : w.heap.size ≤ gb269)); have n9_ := Aside0.mk ((by rw [hg]; exact Nat.ne_of_lt (blk_lt (g := gb236) (o := .cells #[.int .i64 a0_0, .int .i64 a0_1, .int .i64 a0_2, .int .i64 a0_3, .int .u32 a0_4, .int .u32 a0_5, .int .u8 a0_6] 42 (0, 0)) (by (with_reducible repeat (first | refine blk_drewN ?_ _ | refine blk_drew ?_ | refine blk_alloc ?_ _)); exact BK236.out)) : gb236 ≠ gb269)); have n10_ := Aside0.mk ((by rw [hg]; exact Nat.ne_of_gt (blk_lt (g := gb236) (o := .cells #[.int .i64 a0_0, .int .i64 a0_1, .int .i64 a0_2, .int .i64 a0_3, .int .u32 a0_4, .int .u32 a0_5, .int .u8 a0_6] 42 (0, 0)) (by (with_reducible repeat (first | refine blk_drewN ?_ _ | refine blk_drew ?_ | refine blk_alloc ?_ _)); exact BK236.out)) : gb269 ≠ gb236)); have n11_ := Aside0.mk ((by rw [hg]; exact Nat.ne_of_lt (blk_lt (g := gb237) (o := .cells #[.int .i64 a0_0, .int .i64 a0_1, .int .i64 a0_2, .int .i64 a0_3] 23 (0, 0)) (by (with_reducible repeat (first | refine blk_drewN ?_ _ | refine blk_drew ?_ | refine blk_alloc ?_ _)); exact BK237.out)) : gb237 ≠ gb269)); have n12_ := Aside0.mk ((by rw [hg]; exact Nat.ne_of_gt (blk_lt (g := gb237) (o := .cells #[.int .i64 a0_0, .int .i64 a0_1, .int .i64 a0_2, .int .i64 a0_3] 23 (0, 0)) (by (with_reducible repeat (first | refine blk_drewN ?_ _ | refine blk_drew ?_ | refine blk_alloc ?_ _)); exact BK237.out)) : gb269 ≠ gb237)); have n13_ := Aside0.mk ((by rw [hg]; exact Nat.ne_of_lt (blk_lt (g := gb246) (o := .cells #[.int .u32 x247000_2, .int .u32 x247001_2, .int .i64 x247002_2, .int .i64 x247003_2, .int .i64 x247004_2] 27 (0, 0)) (by (with_reducible repeat (first | refine blk_drewN ?_ _ | refine blk_drew ?_ | refine blk_alloc ?_ _)); exact BK246.out)) : gb246 ≠ gb269)); have n14_ := Aside0.mk ((by rw [hg]; exact Nat.ne_of_gt (blk_lt (g := gb246) (o := .cells #[.int .u32 x247000_2, .int .u32 x247001_2, .int .i64 x247002_2, .int .i64 x247003_2, .int .i64 x247004_2] 27 (0, 0)) (by (with_reducible repeat (first | refine blk_drewN ?_ _ | refine blk_drew ?_ | refine blk_alloc ?_ _)); exact BK246.out)) : gb269 ≠ gb246)); have n15_ := Aside0.mk ((by rw [hg]; exact Nat.ne_of_lt (blk_lt (g := gb253) (o := .cells #[.int .u32 x254000_2, .int .u32 x254001_2, .int .i64 x254002_2, .int .i64 x254003_2, .int .i64 x254004_2] 27 (0, 0)) (by (with_reducible repeat (first | refine blk_drewN ?_ _ | refine blk_drew ?_ | refine blk_alloc ?_ _)); exact BK253.out)) : gb253 ≠ gb269)); have n16_ := Aside0.mk ((by rw [hg]; exact Nat.ne_of_gt (blk_lt (g := gb253) (o := .cells #[.int .u32 x254000_2, .int .u32 x254001_2, .int .i64 x254002_2, .int .i64 x254003_2, .int .i64 x254004_2] 27 (0, 0)) (by (with_reducible repeat (first | refine blk_drewN ?_ _ | refine blk_drew ?_ | refine blk_alloc ?_ _)); exact BK253.out)) : gb269 ≠ gb253)); have n17_ := Aside0.mk ((by rw [hg]; exact Nat.ne_of_lt (blk_lt (g := gb262) (o := .cells #[.int .u32 t256, .int .u32 t257, .int .i64 t258, .int .i64 t259, .int .i64 t260] 27 (0, 0)) (by (with_reducible repeat (first | refine blk_drewN ?_ _ | refine blk_drew ?_ | refine blk_alloc ?_ _)); exact BK262.out)) : gb262 ≠ gb269)); have n18_ := Aside0.mk ((by rw [hg]; exact Nat.ne_of_gt (blk_lt (g := gb262) (o := .cells #[.int .u32 t256, .int .u32 t257, .int .i64 t258, .int .i64 t259, .int .i64 t260] 27 (0, 0)) (by (with_reducible repeat (first | refine blk_drewN ?_ _ | refine blk_drew ?_ | refine blk_alloc ?_ _)); exact BK262.out)) : gb269 ≠ gb262)); clear BK236; clear BK237; clear BK246; clear BK253; clear BK262; clear HB; have BK236 := n0_; have BK237 := n1_; have BK246 := n2_; have BK253 := n3_; have BK262 := n4_; have HB := n5_; have BK269 := n6_; have GW269 := n7_; have GE269 := n8_; have NB236_269 := n9_; have NB269_236 := n10_; have NB237_269 := n11_; have NB269_237 := n12_; have NB246_269 := n13_; have NB269_246 := n14_; have NB253_269 := n15_; have NB269_253 := n16_; have NB262_269 := n17_; have NB269_262 := n18_; clear n0_ n1_ n2_ n3_ n4_ n5_ n6_ n7_ n8_ n9_ n10_ n11_ n12_ n13_ n14_ n15_ n16_ n17_ n18_; clear hb hbox hg; have hnb78 := NB269_236.out; have hnc78 := NB236_269.out; have hnb79 := NB269_237.out; have hnc79 := NB237_269.out; have hnb80 := NB269_246.out; have hnc80 := NB246_269.out; have hnb81 := NB269_253.out; have hnc81 := NB253_269.out; have hnb82 := NB269_262.out; have hnc82 := NB262_269.out; have hcz83_0 : w77.cell? ⟨gb269, 0, none⟩ = some (.int .u32 0) := (blk_cell BK269.out 0).trans rfl; have hcz83_1 : w77.cell? ⟨gb269, 1, none⟩ = some (.int .u32 0) := (blk_cell BK269.out 1).trans rfl; have hcz83_2 : w77.cell? ⟨gb269, 2, none⟩ = some (.int .i64 0) := (blk_cell BK269.out 2).trans rfl; have hcz83_3 : w77.cell? ⟨gb269, 3, none⟩ = some (.int .i64 0) := (blk_cell BK269.out 3).trans rfl; have hcz83_4 : w77.cell? ⟨gb269, 4, none⟩ = some (.int .i64 0) := (blk_cell BK269.out 4).trans rfl; have hfz83_0 := blk_frozen BK269.out 0; have hfz83_1 := blk_frozen BK269.out 1; have hfz83_2 := blk_frozen BK269.out 2; have hfz83_3 := blk_frozen BK269.out 3; have hfz83_4 := blk_frozen BK269.out 4))
              (try simp only [Act.put, List.setIfInBounds_toArray, List.set_cons_zero, List.set_cons_succ])
              go_cut [91] (fun v91 wc => ∃ (kq : Nat) (x91_57 : Bool), v91 = .bool x91_57 ∧ Aside0 (stolonlaw10_QuerierOne.j2 kq a0_4 a0_5 a0_6 t238 x12_2 t261 t268 x91_57 a0_0 a0_1 a0_2 a0_3 t256 t257 t258 t259 t260 t263 t264 t265 t266 t267 = some r) ∧ Aside0 (kq ≤ k2) ∧ Aside0 (wc.heap[gb236]? = some (.cells #[.int .i64 a0_0, .int .i64 a0_1, .int .i64 a0_2, .int .i64 a0_3, .int .u32 a0_4, .int .u32 a0_5, .int .u8 a0_6] 42 (0, 0))) ∧ Aside0 (wc.heap[gb237]? = some (.cells #[.int .i64 a0_0, .int .i64 a0_1, .int .i64 a0_2, .int .i64 a0_3] 23 (0, 0))) ∧ Aside0 (wc.heap[gb246]? = some (.cells #[.int .u32 x247000_2, .int .u32 x247001_2, .int .i64 x247002_2, .int .i64 x247003_2, .int .i64 x247004_2] 27 (0, 0))) ∧ Aside0 (wc.heap[gb253]? = some (.cells #[.int .u32 x254000_2, .int .u32 x254001_2, .int .i64 x254002_2, .int .i64 x254003_2, .int .i64 x254004_2] 27 (0, 0))) ∧ Aside0 (wc.heap[gb262]? = some (.cells #[.int .u32 t256, .int .u32 t257, .int .i64 t258, .int .i64 t259, .int .i64 t260] 27 (0, 0))) ∧ Aside0 (wc.heap[gb269]? = some (.cells #[.int .u32 t263, .int .u32 t264, .int .i64 t265, .int .i64 t266, .int .i64 t267] 27 (0, 0))) ∧ Aside0 (Below w.heap.size w wc))
              case first =>
                have H := HC58.out
                clear HC58
                by_cases c84 : t268 = true
                · subst c84
                  have H1 : (stolonlaw10_QuerierOne.j2 k2 a0_4 a0_5 a0_6 t238 x12_2 t261 true (decide (x12_2 > 0)) a0_0 a0_1 a0_2 a0_3 t256 t257 t258 t259 t260 t263 t264 t265 t266 t267) = some r := by rw [if_pos rfl] at H; exact H
                  clear H
                  have H := H1
                  clear H1
                  have H' := Aside0.mk H
                  clear H
                  go_wp2
                  go_meet
                  case rel => exact ⟨_, (decide (x12_2 > 0)), (by first | rfl | (simp; done) | (simp [*]; done)), H', ⟨by have := HJ2.out; have := HK2.out; first | omega | exact Nat.le_refl _⟩, ⟨by (with_reducible repeat (first | refine blk_drewN ?_ _ | refine blk_drew ?_ | refine blk_alloc ?_ _)); refine blk_far ?_ NB236_269.out _; (with_reducible repeat (first | refine blk_drewN ?_ _ | refine blk_drew ?_ | refine blk_alloc ?_ _)); refine blk_far ?_ NB236_269.out _; (with_reducible repeat (first | refine blk_drewN ?_ _ | refine blk_drew ?_ | refine blk_alloc ?_ _)); refine blk_far ?_ NB236_269.out _; (with_reducible repeat (first | refine blk_drewN ?_ _ | refine blk_drew ?_ | refine blk_alloc ?_ _)); refine blk_far ?_ NB236_269.out _; (with_reducible repeat (first | refine blk_drewN ?_ _ | refine blk_drew ?_ | refine blk_alloc ?_ _)); refine blk_far ?_ NB236_269.out _; (with_reducible repeat (first | refine blk_drewN ?_ _ | refine blk_drew ?_ | refine blk_alloc ?_ _)); exact BK236.out⟩, ⟨by (with_reducible repeat (first | refine blk_drewN ?_ _ | refine blk_drew ?_ | refine blk_alloc ?_ _)); refine blk_far ?_ NB237_269.out _; (with_reducible repeat (first | refine blk_drewN ?_ _ | refine blk_drew ?_ | refine blk_alloc ?_ _)); refine blk_far ?_ NB237_269.out _; (with_reducible repeat (first | refine blk_drewN ?_ _ | refine blk_drew ?_ | refine blk_alloc ?_ _)); refine blk_far ?_ NB237_269.out _; (with_reducible repeat (first | refine blk_drewN ?_ _ | refine blk_drew ?_ | refine blk_alloc ?_ _)); refine blk_far ?_ NB237_269.out _; (with_reducible repeat (first | refine blk_drewN ?_ _ | refine blk_drew ?_ | refine blk_alloc ?_ _)); refine blk_far ?_ NB237_269.out _; (with_reducible repeat (first | refine blk_drewN ?_ _ | refine blk_drew ?_ | refine blk_alloc ?_ _)); exact BK237.out⟩, ⟨by (with_reducible repeat (first | refine blk_drewN ?_ _ | refine blk_drew ?_ | refine blk_alloc ?_ _)); refine blk_far ?_ NB246_269.out _; (with_reducible repeat (first | refine blk_drewN ?_ _ | refine blk_drew ?_ | refine blk_alloc ?_ _)); refine blk_far ?_ NB246_269.out _; (with_reducible repeat (first | refine blk_drewN ?_ _ | refine blk_drew ?_ | refine blk_alloc ?_ _)); refine blk_far ?_ NB246_269.out _; (with_reducible repeat (first | refine blk_drewN ?_ _ | refine blk_drew ?_ | refine blk_alloc ?_ _)); refine blk_far ?_ NB246_269.out _; (with_reducible repeat (first | refine blk_drewN ?_ _ | refine blk_drew ?_ | refine blk_alloc ?_ _)); refine blk_far ?_ NB246_269.out _; (with_reducible repeat (first | refine blk_drewN ?_ _ | refine blk_drew ?_ | refine blk_alloc ?_ _)); exact BK246.out⟩, ⟨by (with_reducible repeat (first | refine blk_drewN ?_ _ | refine blk_drew ?_ | refine blk_alloc ?_ _)); refine blk_far ?_ NB253_269.out _; (with_reducible repeat (first | refine blk_drewN ?_ _ | refine blk_drew ?_ | refine blk_alloc ?_ _)); refine blk_far ?_ NB253_269.out _; (with_reducible repeat (first | refine blk_drewN ?_ _ | refine blk_drew ?_ | refine blk_alloc ?_ _)); refine blk_far ?_ NB253_269.out _; (with_reducible repeat (first | refine blk_drewN ?_ _ | refine blk_drew ?_ | refine blk_alloc ?_ _)); refine blk_far ?_ NB253_269.out _; (with_reducible repeat (first | refine blk_drewN ?_ _ | refine blk_drew ?_ | refine blk_alloc ?_ _)); refine blk_far ?_ NB253_269.out _; (with_reducible repeat (first | refine blk_drewN ?_ _ | refine blk_drew ?_ | refine blk_alloc ?_ _)); exact BK253.out⟩, ⟨by (with_reducible repeat (first | refine blk_drewN ?_ _ | refine blk_drew ?_ | refine blk_alloc ?_ _)); refine blk_far ?_ NB262_269.out _; (with_reducible repeat (first | refine blk_drewN ?_ _ | refine blk_drew ?_ | refine blk_alloc ?_ _)); refine blk_far ?_ NB262_269.out _; (with_reducible repeat (first | refine blk_drewN ?_ _ | refine blk_drew ?_ | refine blk_alloc ?_ _)); refine blk_far ?_ NB262_269.out _; (with_reducible repeat (first | refine blk_drewN ?_ _ | refine blk_drew ?_ | refine blk_alloc ?_ _)); refine blk_far ?_ NB262_269.out _; (with_reducible repeat (first | refine blk_drewN ?_ _ | refine blk_drew ?_ | refine blk_alloc ?_ _)); refine blk_far ?_ NB262_269.out _; (with_reducible repeat (first | refine blk_drewN ?_ _ | refine blk_drew ?_ | refine blk_alloc ?_ _)); exact BK262.out⟩, ⟨by (with_reducible repeat (first | refine blk_drewN ?_ _ | refine blk_drew ?_ | refine blk_alloc ?_ _)); refine blk_put (cs := #[.int .u32 t263, .int .u32 t264, .int .i64 t265, .int .i64 t266, .int .i64 0]) ?_ 4 _ rfl; (with_reducible repeat (first | refine blk_drewN ?_ _ | refine blk_drew ?_ | refine blk_alloc ?_ _)); refine blk_put (cs := #[.int .u32 t263, .int .u32 t264, .int .i64 t265, .int .i64 0, .int .i64 0]) ?_ 3 _ rfl; (with_reducible repeat (first | refine blk_drewN ?_ _ | refine blk_drew ?_ | refine blk_alloc ?_ _)); refine blk_put (cs := #[.int .u32 t263, .int .u32 t264, .int .i64 0, .int .i64 0, .int .i64 0]) ?_ 2 _ rfl; (with_reducible repeat (first | refine blk_drewN ?_ _ | refine blk_drew ?_ | refine blk_alloc ?_ _)); refine blk_put (cs := #[.int .u32 t263, .int .u32 0, .int .i64 0, .int .i64 0, .int .i64 0]) ?_ 1 _ rfl; (with_reducible repeat (first | refine blk_drewN ?_ _ | refine blk_drew ?_ | refine blk_alloc ?_ _)); refine blk_put (cs := #[.int .u32 0, .int .u32 0, .int .i64 0, .int .i64 0, .int .i64 0]) ?_ 0 _ rfl; (with_reducible repeat (first | refine blk_drewN ?_ _ | refine blk_drew ?_ | refine blk_alloc ?_ _)); exact BK269.out⟩, ⟨by repeat (first | (with_reducible first | exact HB.out | apply below_alloc | apply pw_below_drewN | apply below_drew1 | refine below_set ?_ GE236.out | refine below_set ?_ GE237.out | refine below_set ?_ GE246.out | refine below_set ?_ GE253.out | refine below_set ?_ GE262.out | refine below_set ?_ GE269.out) | exact HB.out)⟩⟩
                · replace c84 := Bool.eq_false_iff.mpr c84
                  subst c84
                  have H1 : (stolonlaw10_QuerierOne.j2 k2 a0_4 a0_5 a0_6 t238 x12_2 t261 false false a0_0 a0_1 a0_2 a0_3 t256 t257 t258 t259 t260 t263 t264 t265 t266 t267) = some r := by rw [if_neg (show ¬ (false = true) by decide)] at H; exact H
                  clear H
                  have H := H1
                  clear H1
                  have H' := Aside0.mk H
                  clear H
                  go_wp2
                  go_meet
                  case rel => exact ⟨_, (false), (by first | rfl | (simp; done) | (simp [*]; done)), H', ⟨by have := HJ2.out; have := HK2.out; first | omega | exact Nat.le_refl _⟩, ⟨by (with_reducible repeat (first | refine blk_drewN ?_ _ | refine blk_drew ?_ | refine blk_alloc ?_ _)); refine blk_far ?_ NB236_269.out _; (with_reducible repeat (first | refine blk_drewN ?_ _ | refine blk_drew ?_ | refine blk_alloc ?_ _)); refine blk_far ?_ NB236_269.out _; (with_reducible repeat (first | refine blk_drewN ?_ _ | refine blk_drew ?_ | refine blk_alloc ?_ _)); refine blk_far ?_ NB236_269.out _; (with_reducible repeat (first | refine blk_drewN ?_ _ | refine blk_drew ?_ | refine blk_alloc ?_ _)); refine blk_far ?_ NB236_269.out _; (with_reducible repeat (first | refine blk_drewN ?_ _ | refine blk_drew ?_ | refine blk_alloc ?_ _)); refine blk_far ?_ NB236_269.out _; (with_reducible repeat (first | refine blk_drewN ?_ _ | refine blk_drew ?_ | refine blk_alloc ?_ _)); exact BK236.out⟩, ⟨by (with_reducible repeat (first | refine blk_drewN ?_ _ | refine blk_drew ?_ | refine blk_alloc ?_ _)); refine blk_far ?_ NB237_269.out _; (with_reducible repeat (first | refine blk_drewN ?_ _ | refine blk_drew ?_ | refine blk_alloc ?_ _)); refine blk_far ?_ NB237_269.out _; (with_reducible repeat (first | refine blk_drewN ?_ _ | refine blk_drew ?_ | refine blk_alloc ?_ _)); refine blk_far ?_ NB237_269.out _; (with_reducible repeat (first | refine blk_drewN ?_ _ | refine blk_drew ?_ | refine blk_alloc ?_ _)); refine blk_far ?_ NB237_269.out _; (with_reducible repeat (first | refine blk_drewN ?_ _ | refine blk_drew ?_ | refine blk_alloc ?_ _)); refine blk_far ?_ NB237_269.out _; (with_reducible repeat (first | refine blk_drewN ?_ _ | refine blk_drew ?_ | refine blk_alloc ?_ _)); exact BK237.out⟩, ⟨by (with_reducible repeat (first | refine blk_drewN ?_ _ | refine blk_drew ?_ | refine blk_alloc ?_ _)); refine blk_far ?_ NB246_269.out _; (with_reducible repeat (first | refine blk_drewN ?_ _ | refine blk_drew ?_ | refine blk_alloc ?_ _)); refine blk_far ?_ NB246_269.out _; (with_reducible repeat (first | refine blk_drewN ?_ _ | refine blk_drew ?_ | refine blk_alloc ?_ _)); refine blk_far ?_ NB246_269.out _; (with_reducible repeat (first | refine blk_drewN ?_ _ | refine blk_drew ?_ | refine blk_alloc ?_ _)); refine blk_far ?_ NB246_269.out _; (with_reducible repeat (first | refine blk_drewN ?_ _ | refine blk_drew ?_ | refine blk_alloc ?_ _)); refine blk_far ?_ NB246_269.out _; (with_reducible repeat (first | refine blk_drewN ?_ _ | refine blk_drew ?_ | refine blk_alloc ?_ _)); exact BK246.out⟩, ⟨by (with_reducible repeat (first | refine blk_drewN ?_ _ | refine blk_drew ?_ | refine blk_alloc ?_ _)); refine blk_far ?_ NB253_269.out _; (with_reducible repeat (first | refine blk_drewN ?_ _ | refine blk_drew ?_ | refine blk_alloc ?_ _)); refine blk_far ?_ NB253_269.out _; (with_reducible repeat (first | refine blk_drewN ?_ _ | refine blk_drew ?_ | refine blk_alloc ?_ _)); refine blk_far ?_ NB253_269.out _; (with_reducible repeat (first | refine blk_drewN ?_ _ | refine blk_drew ?_ | refine blk_alloc ?_ _)); refine blk_far ?_ NB253_269.out _; (with_reducible repeat (first | refine blk_drewN ?_ _ | refine blk_drew ?_ | refine blk_alloc ?_ _)); refine blk_far ?_ NB253_269.out _; (with_reducible repeat (first | refine blk_drewN ?_ _ | refine blk_drew ?_ | refine blk_alloc ?_ _)); exact BK253.out⟩, ⟨by (with_reducible repeat (first | refine blk_drewN ?_ _ | refine blk_drew ?_ | refine blk_alloc ?_ _)); refine blk_far ?_ NB262_269.out _; (with_reducible repeat (first | refine blk_drewN ?_ _ | refine blk_drew ?_ | refine blk_alloc ?_ _)); refine blk_far ?_ NB262_269.out _; (with_reducible repeat (first | refine blk_drewN ?_ _ | refine blk_drew ?_ | refine blk_alloc ?_ _)); refine blk_far ?_ NB262_269.out _; (with_reducible repeat (first | refine blk_drewN ?_ _ | refine blk_drew ?_ | refine blk_alloc ?_ _)); refine blk_far ?_ NB262_269.out _; (with_reducible repeat (first | refine blk_drewN ?_ _ | refine blk_drew ?_ | refine blk_alloc ?_ _)); refine blk_far ?_ NB262_269.out _; (with_reducible repeat (first | refine blk_drewN ?_ _ | refine blk_drew ?_ | refine blk_alloc ?_ _)); exact BK262.out⟩, ⟨by (with_reducible repeat (first | refine blk_drewN ?_ _ | refine blk_drew ?_ | refine blk_alloc ?_ _)); refine blk_put (cs := #[.int .u32 t263, .int .u32 t264, .int .i64 t265, .int .i64 t266, .int .i64 0]) ?_ 4 _ rfl; (with_reducible repeat (first | refine blk_drewN ?_ _ | refine blk_drew ?_ | refine blk_alloc ?_ _)); refine blk_put (cs := #[.int .u32 t263, .int .u32 t264, .int .i64 t265, .int .i64 0, .int .i64 0]) ?_ 3 _ rfl; (with_reducible repeat (first | refine blk_drewN ?_ _ | refine blk_drew ?_ | refine blk_alloc ?_ _)); refine blk_put (cs := #[.int .u32 t263, .int .u32 t264, .int .i64 0, .int .i64 0, .int .i64 0]) ?_ 2 _ rfl; (with_reducible repeat (first | refine blk_drewN ?_ _ | refine blk_drew ?_ | refine blk_alloc ?_ _)); refine blk_put (cs := #[.int .u32 t263, .int .u32 0, .int .i64 0, .int .i64 0, .int .i64 0]) ?_ 1 _ rfl; (with_reducible repeat (first | refine blk_drewN ?_ _ | refine blk_drew ?_ | refine blk_alloc ?_ _)); refine blk_put (cs := #[.int .u32 0, .int .u32 0, .int .i64 0, .int .i64 0, .int .i64 0]) ?_ 0 _ rfl; (with_reducible repeat (first | refine blk_drewN ?_ _ | refine blk_drew ?_ | refine blk_alloc ?_ _)); exact BK269.out⟩, ⟨by repeat (first | (with_reducible first | exact HB.out | apply below_alloc | apply pw_below_drewN | apply below_drew1 | refine below_set ?_ GE236.out | refine below_set ?_ GE237.out | refine below_set ?_ GE246.out | refine below_set ?_ GE253.out | refine below_set ?_ GE262.out | refine below_set ?_ GE269.out) | exact HB.out)⟩⟩
              case rest =>
                clear HC58
                try clear c1
                try clear c2
                try clear p2
                try clear c3
                try clear c4
                try clear c5
                try clear c6
                try clear p6
                try clear c7
                try clear c8
                try clear c9
                try clear c10
                try clear c12
                try clear c13
                try clear c13b0
                try clear c13b1
                try clear c14
                try clear c17
                try clear c17b0
                try clear c18
                try clear c21
                try clear c21b0
                try clear c22
                try clear c26
                try clear c26b0
                try clear c27
                try clear c31
                try clear c35
                try clear c38
                try clear c41
                try clear c45
                try clear c46
                try clear c51
                try clear c52
                try clear c53
                try clear c55
                try clear c55b0
                try clear c59
                try clear c60
                try clear c61
                try clear c63
                try clear c64
                try clear p64
                try clear c68
                try clear c69
                try clear c70
                try clear c71
                try clear c74
                try clear c78
                try clear c79
                try clear c80
                try clear c81
                try clear c82
                try clear c84
                try clear hcz15_0
                try clear hcz15_1
                try clear hcz15_2
                try clear hcz15_3
                try clear hcz19_0
                try clear hcz19_1
                try clear hcz19_2
                try clear hcz19_3
                try clear hcz23_0
                try clear hcz23_1
                try clear hcz23_2
                try clear hcz23_3
                try clear hcz25_0
                try clear hcz25_1
                try clear hcz25_2
                try clear hcz25_3
                try clear hcz28_0
                try clear hcz28_1
                try clear hcz28_2
                try clear hcz28_3
                try clear hcz30_0
                try clear hcz30_1
                try clear hcz30_2
                try clear hcz30_3
                try clear hcz32_0
                try clear hcz32_1
                try clear hcz32_2
                try clear hcz32_3
                try clear hcz34_0
                try clear hcz34_1
                try clear hcz34_2
                try clear hcz34_3
                try clear hcz36_0
                try clear hcz36_1
                try clear hcz36_2
                try clear hcz36_3
                try clear hcz42_0
                try clear hcz42_1
                try clear hcz42_2
                try clear hcz42_3
                try clear hcz47_0
                try clear hcz47_1
                try clear hcz47_2
                try clear hcz47_3
                try clear hcz47_4
                try clear hcz48_0
                try clear hcz48_1
                try clear hcz48_2
                try clear hcz48_3
                try clear hcz54_0
                try clear hcz54_1
                try clear hcz54_2
                try clear hcz54_3
                try clear hcz54_4
                try clear hcz5_0
                try clear hcz5_1
                try clear hcz5_2
                try clear hcz5_3
                try clear hcz5_4
                try clear hcz5_5
                try clear hcz5_6
                try clear hcz62_0
                try clear hcz62_1
                try clear hcz62_2
                try clear hcz62_3
                try clear hcz65_0
                try clear hcz65_1
                try clear hcz65_2
                try clear hcz65_3
                try clear hcz65_4
                try clear hcz72_0
                try clear hcz72_1
                try clear hcz72_2
                try clear hcz72_3
                try clear hcz72_4
                try clear hcz73_0
                try clear hcz73_1
                try clear hcz73_2
                try clear hcz73_3
                try clear hcz75_0
                try clear hcz75_1
                try clear hcz75_2
                try clear hcz75_3
                try clear hcz75_4
                try clear hcz83_0
                try clear hcz83_1
                try clear hcz83_2
                try clear hcz83_3
                try clear hcz83_4
                try clear hcz8_0
                try clear hcz8_1
                try clear hcz8_2
                try clear hcz8_3
                try clear hcz9_0
                try clear hcz9_1
                try clear hcz9_2
                try clear hcz9_3
                try clear hcz9_4
                try clear hcz9_5
                try clear hcz9_6
                try clear hfz15_0
                try clear hfz15_1
                try clear hfz15_2
                try clear hfz15_3
                try clear hfz19_0
                try clear hfz19_1
                try clear hfz19_2
                try clear hfz19_3
                try clear hfz23_0
                try clear hfz23_1
                try clear hfz23_2
                try clear hfz23_3
                try clear hfz25_0
                try clear hfz25_1
                try clear hfz25_2
                try clear hfz25_3
                try clear hfz28_0
                try clear hfz28_1
                try clear hfz28_2
                try clear hfz28_3
                try clear hfz30_0
                try clear hfz30_1
                try clear hfz30_2
                try clear hfz30_3
                try clear hfz32_0
                try clear hfz32_1
                try clear hfz32_2
                try clear hfz32_3
                try clear hfz34_0
                try clear hfz34_1
                try clear hfz34_2
                try clear hfz34_3
                try clear hfz36_0
                try clear hfz36_1
                try clear hfz36_2
                try clear hfz36_3
                try clear hfz42_0
                try clear hfz42_1
                try clear hfz42_2
                try clear hfz42_3
                try clear hfz47_0
                try clear hfz47_1
                try clear hfz47_2
                try clear hfz47_3
                try clear hfz47_4
                try clear hfz48_0
                try clear hfz48_1
                try clear hfz48_2
                try clear hfz48_3
                try clear hfz54_0
                try clear hfz54_1
                try clear hfz54_2
                try clear hfz54_3
                try clear hfz54_4
                try clear hfz5_0
                try clear hfz5_1
                try clear hfz5_2
                try clear hfz5_3
                try clear hfz5_4
                try clear hfz5_5
                try clear hfz5_6
                try clear hfz62_0
                try clear hfz62_1
                try clear hfz62_2
                try clear hfz62_3
                try clear hfz65_0
                try clear hfz65_1
                try clear hfz65_2
                try clear hfz65_3
                try clear hfz65_4
                try clear hfz72_0
                try clear hfz72_1
                try clear hfz72_2
                try clear hfz72_3
                try clear hfz72_4
                try clear hfz73_0
                try clear hfz73_1
                try clear hfz73_2
                try clear hfz73_3
                try clear hfz75_0
                try clear hfz75_1
                try clear hfz75_2
                try clear hfz75_3
                try clear hfz75_4
                try clear hfz83_0
                try clear hfz83_1
                try clear hfz83_2
                try clear hfz83_3
                try clear hfz83_4
                try clear hfz8_0
                try clear hfz8_1
                try clear hfz8_2
                try clear hfz8_3
                try clear hfz9_0
                try clear hfz9_1
                try clear hfz9_2
                try clear hfz9_3
                try clear hfz9_4
                try clear hfz9_5
                try clear hfz9_6
                try clear p2
                obtain ⟨kq, x91_57, rfl, HA, HJ57, BK236, BK237, BK246, BK253, BK262, BK269, HB⟩ := hcut
                cases kq with
                | zero => exact absurd HA.out (by simp [stolonlaw10_QuerierOne.j2])
                | succ kj57 =>
                  have H := HA.out
                  clear HA
                  simp only [stolonlaw10_QuerierOne.j2] at H
                  by_cases c85 : x91_57 = true
                  · subst c85
                    have H1 : (some false) = some r := by rw [if_pos rfl] at H; exact H
                    clear H
                    have H := H1
                    clear H1
                    exact absurd ((Option.some.inj H).trans hTrue.out) (by simp)
                  · replace c85 := Bool.eq_false_iff.mpr c85
                    subst c85
                    have H1 : (if t261 = true then ((querier_Hear.f a0_0 a0_1 a0_2 a0_3 t263 t264 t265 t266 t267 a0_4).bind fun bt270 => (if t268 = true then ((querier_Hear.f a0_0 a0_1 a0_2 a0_3 t256 t257 t258 t259 t260 a0_5).bind fun bt275 => (stolonlaw10_QuerierOne.l0 kj57 a0_4 a0_5 a0_6 t238 (wrap64 (x12_2 + 1)) a0_0 a0_1 a0_2 a0_3 bt275.1 bt275.2.1 bt275.2.2.1 bt275.2.2.2.1 bt275.2.2.2.2 bt270.1 bt270.2.1 bt270.2.2.1 bt270.2.2.2.1 bt270.2.2.2.2)) else (stolonlaw10_QuerierOne.l0 kj57 a0_4 a0_5 a0_6 t238 (wrap64 (x12_2 + 1)) a0_0 a0_1 a0_2 a0_3 t256 t257 t258 t259 t260 bt270.1 bt270.2.1 bt270.2.2.1 bt270.2.2.2.1 bt270.2.2.2.2))) else (if t268 = true then ((querier_Hear.f a0_0 a0_1 a0_2 a0_3 t256 t257 t258 t259 t260 a0_5).bind fun bt280 => (stolonlaw10_QuerierOne.l0 kj57 a0_4 a0_5 a0_6 t238 (wrap64 (x12_2 + 1)) a0_0 a0_1 a0_2 a0_3 bt280.1 bt280.2.1 bt280.2.2.1 bt280.2.2.2.1 bt280.2.2.2.2 t263 t264 t265 t266 t267)) else (stolonlaw10_QuerierOne.l0 kj57 a0_4 a0_5 a0_6 t238 (wrap64 (x12_2 + 1)) a0_0 a0_1 a0_2 a0_3 t256 t257 t258 t259 t260 t263 t264 t265 t266 t267))) = some r := by rw [if_neg (show ¬ (false = true) by decide)] at H; exact H
                    clear H
                    have H := H1
                    clear H1
                    by_cases c86 : t261 = true
                    · subst c86
                      have H1 : ((querier_Hear.f a0_0 a0_1 a0_2 a0_3 t263 t264 t265 t266 t267 a0_4).bind fun bt270 => (if t268 = true then ((querier_Hear.f a0_0 a0_1 a0_2 a0_3 t256 t257 t258 t259 t260 a0_5).bind fun bt275 => (stolonlaw10_QuerierOne.l0 kj57 a0_4 a0_5 a0_6 t238 (wrap64 (x12_2 + 1)) a0_0 a0_1 a0_2 a0_3 bt275.1 bt275.2.1 bt275.2.2.1 bt275.2.2.2.1 bt275.2.2.2.2 bt270.1 bt270.2.1 bt270.2.2.1 bt270.2.2.2.1 bt270.2.2.2.2)) else (stolonlaw10_QuerierOne.l0 kj57 a0_4 a0_5 a0_6 t238 (wrap64 (x12_2 + 1)) a0_0 a0_1 a0_2 a0_3 t256 t257 t258 t259 t260 bt270.1 bt270.2.1 bt270.2.2.1 bt270.2.2.2.1 bt270.2.2.2.2))) = some r := by rw [if_pos rfl] at H; exact H
                      clear H
                      have H := H1
                      clear H1
                      replace H := Option.bind_eq_some_iff.mp H
                      obtain ⟨⟨t270, t271, t272, t273, t274⟩, A870, H⟩ := H
                      replace H : (if t268 = true then ((querier_Hear.f a0_0 a0_1 a0_2 a0_3 t256 t257 t258 t259 t260 a0_5).bind fun bt275 => (stolonlaw10_QuerierOne.l0 kj57 a0_4 a0_5 a0_6 t238 (wrap64 (x12_2 + 1)) a0_0 a0_1 a0_2 a0_3 bt275.1 bt275.2.1 bt275.2.2.1 bt275.2.2.2.1 bt275.2.2.2.2 t270 t271 t272 t273 t274)) else (stolonlaw10_QuerierOne.l0 kj57 a0_4 a0_5 a0_6 t238 (wrap64 (x12_2 + 1)) a0_0 a0_1 a0_2 a0_3 t256 t257 t258 t259 t260 t270 t271 t272 t273 t274)) = some r := H
                      have A87 := Aside0.mk A870
                      clear A870
                      by_cases c88 : t268 = true
                      · subst c88
                        have H1 : ((querier_Hear.f a0_0 a0_1 a0_2 a0_3 t256 t257 t258 t259 t260 a0_5).bind fun bt275 => (stolonlaw10_QuerierOne.l0 kj57 a0_4 a0_5 a0_6 t238 (wrap64 (x12_2 + 1)) a0_0 a0_1 a0_2 a0_3 bt275.1 bt275.2.1 bt275.2.2.1 bt275.2.2.2.1 bt275.2.2.2.2 t270 t271 t272 t273 t274)) = some r := by rw [if_pos rfl] at H; exact H
                        clear H
                        have H := H1
                        clear H1
                        replace H := Option.bind_eq_some_iff.mp H
                        obtain ⟨⟨t275, t276, t277, t278, t279⟩, A890, H⟩ := H
                        replace H : (stolonlaw10_QuerierOne.l0 kj57 a0_4 a0_5 a0_6 t238 (wrap64 (x12_2 + 1)) a0_0 a0_1 a0_2 a0_3 t275 t276 t277 t278 t279 t270 t271 t272 t273 t274) = some r := H
                        have A89 := Aside0.mk A890
                        clear A890
                        have H' := Aside0.mk H
                        clear H
                        have hnb90 := NB237_236.out
                        have hnc90 := NB236_237.out
                        have hnb91 := NB237_246.out
                        have hnc91 := NB246_237.out
                        have hnb92 := NB237_253.out
                        have hnc92 := NB253_237.out
                        have hnb93 := NB237_262.out
                        have hnc93 := NB262_237.out
                        have hnb94 := NB237_269.out
                        have hnc94 := NB269_237.out
                        have hcz95_0 : wc.cell? ⟨gb237, 0, none⟩ = some (.int .i64 a0_0) := (blk_cell BK237.out 0).trans rfl
                        have hcz95_1 : wc.cell? ⟨gb237, 1, none⟩ = some (.int .i64 a0_1) := (blk_cell BK237.out 1).trans rfl
                        have hcz95_2 : wc.cell? ⟨gb237, 2, none⟩ = some (.int .i64 a0_2) := (blk_cell BK237.out 2).trans rfl
                        have hcz95_3 : wc.cell? ⟨gb237, 3, none⟩ = some (.int .i64 a0_3) := (blk_cell BK237.out 3).trans rfl
                        have hfz95_0 := blk_frozen BK237.out 0
                        have hfz95_1 := blk_frozen BK237.out 1
                        have hfz95_2 := blk_frozen BK237.out 2
                        have hfz95_3 := blk_frozen BK237.out 3
                        have hnb96 := NB269_236.out
                        have hnc96 := NB236_269.out
                        have hnb97 := NB269_246.out
                        have hnc97 := NB246_269.out
                        have hnb98 := NB269_253.out
                        have hnc98 := NB253_269.out
                        have hnb99 := NB269_262.out
                        have hnc99 := NB262_269.out
                        have hcz100_0 : wc.cell? ⟨gb269, 0, none⟩ = some (.int .u32 t263) := (blk_cell BK269.out 0).trans rfl
                        have hcz100_1 : wc.cell? ⟨gb269, 1, none⟩ = some (.int .u32 t264) := (blk_cell BK269.out 1).trans rfl
                        have hcz100_2 : wc.cell? ⟨gb269, 2, none⟩ = some (.int .i64 t265) := (blk_cell BK269.out 2).trans rfl
                        have hcz100_3 : wc.cell? ⟨gb269, 3, none⟩ = some (.int .i64 t266) := (blk_cell BK269.out 3).trans rfl
                        have hcz100_4 : wc.cell? ⟨gb269, 4, none⟩ = some (.int .i64 t267) := (blk_cell BK269.out 4).trans rfl
                        have hfz100_0 := blk_frozen BK269.out 0
                        have hfz100_1 := blk_frozen BK269.out 1
                        have hfz100_2 := blk_frozen BK269.out 2
                        have hfz100_3 := blk_frozen BK269.out 3
                        have hfz100_4 := blk_frozen BK269.out 4
                        go_wp2_with (first | ((with_reducible refine gate_callee (f := 19) rfl ?_); refine goesL_ (some 96) rfl rfl Try.func19 (by kernel_rfl) rfl #[.agg #[.int .i64 a0_0, .int .i64 a0_1, .int .i64 a0_2, .int .i64 a0_3], .agg #[.int .u32 t263, .int .u32 t264, .int .i64 t265, .int .i64 t266, .int .i64 t267], .int .u32 a0_4] rfl (by (try simp only [List.map_toArray, List.map_cons, List.map_nil]); first | done | rfl | (simp only [List.length_drop, List.length_take]; rfl)) ?_; (with_reducible refine (querier_Hear.calls a0_0 a0_1 a0_2 a0_3 t263 t264 t265 t266 t267 a0_4 t270 t271 t272 t273 t274 _ A87.out).mono ?_); rintro e w101 ⟨rfl, hb⟩; refine ⟨_, rfl, ?_⟩; have n0_ := Aside0.mk (blk_below (g := gb236) (o := .cells #[.int .i64 a0_0, .int .i64 a0_1, .int .i64 a0_2, .int .i64 a0_3, .int .u32 a0_4, .int .u32 a0_5, .int .u8 a0_6] 42 (0, 0)) (by (with_reducible repeat (first | refine blk_drewN ?_ _ | refine blk_drew ?_ | refine blk_alloc ?_ _)); exact BK236.out) hb); have n1_ := Aside0.mk (blk_below (g := gb237) (o := .cells #[.int .i64 a0_0, .int .i64 a0_1, .int .i64 a0_2, .int .i64 a0_3] 23 (0, 0)) (by (with_reducible repeat (first | refine blk_drewN ?_ _ | refine blk_drew ?_ | refine blk_alloc ?_ _)); exact BK237.out) hb); have n2_ := Aside0.mk (blk_below (g := gb246) (o := .cells #[.int .u32 x247000_2, .int .u32 x247001_2, .int .i64 x247002_2, .int .i64 x247003_2, .int .i64 x247004_2] 27 (0, 0)) (by (with_reducible repeat (first | refine blk_drewN ?_ _ | refine blk_drew ?_ | refine blk_alloc ?_ _)); exact BK246.out) hb); have n3_ := Aside0.mk (blk_below (g := gb253) (o := .cells #[.int .u32 x254000_2, .int .u32 x254001_2, .int .i64 x254002_2, .int .i64 x254003_2, .int .i64 x254004_2] 27 (0, 0)) (by (with_reducible repeat (first | refine blk_drewN ?_ _ | refine blk_drew ?_ | refine blk_alloc ?_ _)); exact BK253.out) hb); have n4_ := Aside0.mk (blk_below (g := gb262) (o := .cells #[.int .u32 t256, .int .u32 t257, .int .i64 t258, .int .i64 t259, .int .i64 t260] 27 (0, 0)) (by (with_reducible repeat (first | refine blk_drewN ?_ _ | refine blk_drew ?_ | refine blk_alloc ?_ _)); exact BK262.out) hb); have n5_ := Aside0.mk (blk_below (g := gb269) (o := .cells #[.int .u32 t263, .int .u32 t264, .int .i64 t265, .int .i64 t266, .int .i64 t267] 27 (0, 0)) (by (with_reducible repeat (first | refine blk_drewN ?_ _ | refine blk_drew ?_ | refine blk_alloc ?_ _)); exact BK269.out) hb); have n6_ := Aside0.mk (below_step (by repeat (first | (with_reducible first | exact HB.out | apply below_alloc | apply pw_below_drewN | apply below_drew1 | refine below_set ?_ GE236.out | refine below_set ?_ GE237.out | refine below_set ?_ GE246.out | refine below_set ?_ GE253.out | refine below_set ?_ GE262.out | refine below_set ?_ GE269.out) | exact HB.out)) hb); clear BK236; clear BK237; clear BK246; clear BK253; clear BK262; clear BK269; clear HB; have BK236 := n0_; have BK237 := n1_; have BK246 := n2_; have BK253 := n3_; have BK262 := n4_; have BK269 := n5_; have HB := n6_; clear n0_ n1_ n2_ n3_ n4_ n5_ n6_; (try clear hb); (try clear hb2); (try clear hk); (try clear hi); have hcz102_0 : w101.cell? ⟨gb269, 0, none⟩ = some (.int .u32 t263) := (blk_cell BK269.out 0).trans rfl; have hcz102_1 : w101.cell? ⟨gb269, 1, none⟩ = some (.int .u32 t264) := (blk_cell BK269.out 1).trans rfl; have hcz102_2 : w101.cell? ⟨gb269, 2, none⟩ = some (.int .i64 t265) := (blk_cell BK269.out 2).trans rfl; have hcz102_3 : w101.cell? ⟨gb269, 3, none⟩ = some (.int .i64 t266) := (blk_cell BK269.out 3).trans rfl; have hcz102_4 : w101.cell? ⟨gb269, 4, none⟩ = some (.int .i64 t267) := (blk_cell BK269.out 4).trans rfl; have hfz102_0 := blk_frozen BK269.out 0; have hfz102_1 := blk_frozen BK269.out 1; have hfz102_2 := blk_frozen BK269.out 2; have hfz102_3 := blk_frozen BK269.out 3; have hfz102_4 := blk_frozen BK269.out 4; have hcz103_0 : w101.cell? ⟨gb237, 0, none⟩ = some (.int .i64 a0_0) := (blk_cell BK237.out 0).trans rfl; have hcz103_1 : w101.cell? ⟨gb237, 1, none⟩ = some (.int .i64 a0_1) := (blk_cell BK237.out 1).trans rfl; have hcz103_2 : w101.cell? ⟨gb237, 2, none⟩ = some (.int .i64 a0_2) := (blk_cell BK237.out 2).trans rfl; have hcz103_3 : w101.cell? ⟨gb237, 3, none⟩ = some (.int .i64 a0_3) := (blk_cell BK237.out 3).trans rfl; have hfz103_0 := blk_frozen BK237.out 0; have hfz103_1 := blk_frozen BK237.out 1; have hfz103_2 := blk_frozen BK237.out 2; have hfz103_3 := blk_frozen BK237.out 3; have hnb104 := NB262_236.out; have hnc104 := NB236_262.out; have hnb105 := NB262_246.out; have hnc105 := NB246_262.out; have hnb106 := NB262_253.out; have hnc106 := NB253_262.out; have hcz107_0 : w101.cell? ⟨gb262, 0, none⟩ = some (.int .u32 t256) := (blk_cell BK262.out 0).trans rfl; have hcz107_1 : w101.cell? ⟨gb262, 1, none⟩ = some (.int .u32 t257) := (blk_cell BK262.out 1).trans rfl; have hcz107_2 : w101.cell? ⟨gb262, 2, none⟩ = some (.int .i64 t258) := (blk_cell BK262.out 2).trans rfl; have hcz107_3 : w101.cell? ⟨gb262, 3, none⟩ = some (.int .i64 t259) := (blk_cell BK262.out 3).trans rfl; have hcz107_4 : w101.cell? ⟨gb262, 4, none⟩ = some (.int .i64 t260) := (blk_cell BK262.out 4).trans rfl; have hfz107_0 := blk_frozen BK262.out 0; have hfz107_1 := blk_frozen BK262.out 1; have hfz107_2 := blk_frozen BK262.out 2; have hfz107_3 := blk_frozen BK262.out 3; have hfz107_4 := blk_frozen BK262.out 4) | ((with_reducible refine gate_callee (f := 19) rfl ?_); refine goesL_ (some 101) rfl rfl Try.func19 (by kernel_rfl) rfl #[.agg #[.int .i64 a0_0, .int .i64 a0_1, .int .i64 a0_2, .int .i64 a0_3], .agg #[.int .u32 t256, .int .u32 t257, .int .i64 t258, .int .i64 t259, .int .i64 t260], .int .u32 a0_5] rfl (by (try simp only [List.map_toArray, List.map_cons, List.map_nil]); first | done | rfl | (simp only [List.length_drop, List.length_take]; rfl)) ?_; (with_reducible refine (querier_Hear.calls a0_0 a0_1 a0_2 a0_3 t256 t257 t258 t259 t260 a0_5 t275 t276 t277 t278 t279 _ A89.out).mono ?_); rintro e w108 ⟨rfl, hb⟩; refine ⟨_, rfl, ?_⟩; have n0_ := Aside0.mk (blk_below (g := gb236) (o := .cells #[.int .i64 a0_0, .int .i64 a0_1, .int .i64 a0_2, .int .i64 a0_3, .int .u32 a0_4, .int .u32 a0_5, .int .u8 a0_6] 42 (0, 0)) (by (with_reducible repeat (first | refine blk_drewN ?_ _ | refine blk_drew ?_ | refine blk_alloc ?_ _)); refine blk_far ?_ NB236_269.out _; (with_reducible repeat (first | refine blk_drewN ?_ _ | refine blk_drew ?_ | refine blk_alloc ?_ _)); refine blk_far ?_ NB236_269.out _; (with_reducible repeat (first | refine blk_drewN ?_ _ | refine blk_drew ?_ | refine blk_alloc ?_ _)); refine blk_far ?_ NB236_269.out _; (with_reducible repeat (first | refine blk_drewN ?_ _ | refine blk_drew ?_ | refine blk_alloc ?_ _)); refine blk_far ?_ NB236_269.out _; (with_reducible repeat (first | refine blk_drewN ?_ _ | refine blk_drew ?_ | refine blk_alloc ?_ _)); refine blk_far ?_ NB236_269.out _; (with_reducible repeat (first | refine blk_drewN ?_ _ | refine blk_drew ?_ | refine blk_alloc ?_ _)); exact BK236.out) hb); have n1_ := Aside0.mk (blk_below (g := gb237) (o := .cells #[.int .i64 a0_0, .int .i64 a0_1, .int .i64 a0_2, .int .i64 a0_3] 23 (0, 0)) (by (with_reducible repeat (first | refine blk_drewN ?_ _ | refine blk_drew ?_ | refine blk_alloc ?_ _)); refine blk_far ?_ NB237_269.out _; (with_reducible repeat (first | refine blk_drewN ?_ _ | refine blk_drew ?_ | refine blk_alloc ?_ _)); refine blk_far ?_ NB237_269.out _; (with_reducible repeat (first | refine blk_drewN ?_ _ | refine blk_drew ?_ | refine blk_alloc ?_ _)); refine blk_far ?_ NB237_269.out _; (with_reducible repeat (first | refine blk_drewN ?_ _ | refine blk_drew ?_ | refine blk_alloc ?_ _)); refine blk_far ?_ NB237_269.out _; (with_reducible repeat (first | refine blk_drewN ?_ _ | refine blk_drew ?_ | refine blk_alloc ?_ _)); refine blk_far ?_ NB237_269.out _; (with_reducible repeat (first | refine blk_drewN ?_ _ | refine blk_drew ?_ | refine blk_alloc ?_ _)); exact BK237.out) hb); have n2_ := Aside0.mk (blk_below (g := gb246) (o := .cells #[.int .u32 x247000_2, .int .u32 x247001_2, .int .i64 x247002_2, .int .i64 x247003_2, .int .i64 x247004_2] 27 (0, 0)) (by (with_reducible repeat (first | refine blk_drewN ?_ _ | refine blk_drew ?_ | refine blk_alloc ?_ _)); refine blk_far ?_ NB246_269.out _; (with_reducible repeat (first | refine blk_drewN ?_ _ | refine blk_drew ?_ | refine blk_alloc ?_ _)); refine blk_far ?_ NB246_269.out _; (with_reducible repeat (first | refine blk_drewN ?_ _ | refine blk_drew ?_ | refine blk_alloc ?_ _)); refine blk_far ?_ NB246_269.out _; (with_reducible repeat (first | refine blk_drewN ?_ _ | refine blk_drew ?_ | refine blk_alloc ?_ _)); refine blk_far ?_ NB246_269.out _; (with_reducible repeat (first | refine blk_drewN ?_ _ | refine blk_drew ?_ | refine blk_alloc ?_ _)); refine blk_far ?_ NB246_269.out _; (with_reducible repeat (first | refine blk_drewN ?_ _ | refine blk_drew ?_ | refine blk_alloc ?_ _)); exact BK246.out) hb); have n3_ := Aside0.mk (blk_below (g := gb253) (o := .cells #[.int .u32 x254000_2, .int .u32 x254001_2, .int .i64 x254002_2, .int .i64 x254003_2, .int .i64 x254004_2] 27 (0, 0)) (by (with_reducible repeat (first | refine blk_drewN ?_ _ | refine blk_drew ?_ | refine blk_alloc ?_ _)); refine blk_far ?_ NB253_269.out _; (with_reducible repeat (first | refine blk_drewN ?_ _ | refine blk_drew ?_ | refine blk_alloc ?_ _)); refine blk_far ?_ NB253_269.out _; (with_reducible repeat (first | refine blk_drewN ?_ _ | refine blk_drew ?_ | refine blk_alloc ?_ _)); refine blk_far ?_ NB253_269.out _; (with_reducible repeat (first | refine blk_drewN ?_ _ | refine blk_drew ?_ | refine blk_alloc ?_ _)); refine blk_far ?_ NB253_269.out _; (with_reducible repeat (first | refine blk_drewN ?_ _ | refine blk_drew ?_ | refine blk_alloc ?_ _)); refine blk_far ?_ NB253_269.out _; (with_reducible repeat (first | refine blk_drewN ?_ _ | refine blk_drew ?_ | refine blk_alloc ?_ _)); exact BK253.out) hb); have n4_ := Aside0.mk (blk_below (g := gb262) (o := .cells #[.int .u32 t256, .int .u32 t257, .int .i64 t258, .int .i64 t259, .int .i64 t260] 27 (0, 0)) (by (with_reducible repeat (first | refine blk_drewN ?_ _ | refine blk_drew ?_ | refine blk_alloc ?_ _)); refine blk_far ?_ NB262_269.out _; (with_reducible repeat (first | refine blk_drewN ?_ _ | refine blk_drew ?_ | refine blk_alloc ?_ _)); refine blk_far ?_ NB262_269.out _; (with_reducible repeat (first | refine blk_drewN ?_ _ | refine blk_drew ?_ | refine blk_alloc ?_ _)); refine blk_far ?_ NB262_269.out _; (with_reducible repeat (first | refine blk_drewN ?_ _ | refine blk_drew ?_ | refine blk_alloc ?_ _)); refine blk_far ?_ NB262_269.out _; (with_reducible repeat (first | refine blk_drewN ?_ _ | refine blk_drew ?_ | refine blk_alloc ?_ _)); refine blk_far ?_ NB262_269.out _; (with_reducible repeat (first | refine blk_drewN ?_ _ | refine blk_drew ?_ | refine blk_alloc ?_ _)); exact BK262.out) hb); have n5_ := Aside0.mk (blk_below (g := gb269) (o := .cells #[.int .u32 t270, .int .u32 t271, .int .i64 t272, .int .i64 t273, .int .i64 t274] 27 (0, 0)) (by (with_reducible repeat (first | refine blk_drewN ?_ _ | refine blk_drew ?_ | refine blk_alloc ?_ _)); refine blk_put (cs := #[.int .u32 t270, .int .u32 t271, .int .i64 t272, .int .i64 t273, .int .i64 t267]) ?_ 4 _ rfl; (with_reducible repeat (first | refine blk_drewN ?_ _ | refine blk_drew ?_ | refine blk_alloc ?_ _)); refine blk_put (cs := #[.int .u32 t270, .int .u32 t271, .int .i64 t272, .int .i64 t266, .int .i64 t267]) ?_ 3 _ rfl; (with_reducible repeat (first | refine blk_drewN ?_ _ | refine blk_drew ?_ | refine blk_alloc ?_ _)); refine blk_put (cs := #[.int .u32 t270, .int .u32 t271, .int .i64 t265, .int .i64 t266, .int .i64 t267]) ?_ 2 _ rfl; (with_reducible repeat (first | refine blk_drewN ?_ _ | refine blk_drew ?_ | refine blk_alloc ?_ _)); refine blk_put (cs := #[.int .u32 t270, .int .u32 t264, .int .i64 t265, .int .i64 t266, .int .i64 t267]) ?_ 1 _ rfl; (with_reducible repeat (first | refine blk_drewN ?_ _ | refine blk_drew ?_ | refine blk_alloc ?_ _)); refine blk_put (cs := #[.int .u32 t263, .int .u32 t264, .int .i64 t265, .int .i64 t266, .int .i64 t267]) ?_ 0 _ rfl; (with_reducible repeat (first | refine blk_drewN ?_ _ | refine blk_drew ?_ | refine blk_alloc ?_ _)); exact BK269.out) hb); have n6_ := Aside0.mk (below_step (by repeat (first | (with_reducible first | exact HB.out | apply below_alloc | apply pw_below_drewN | apply below_drew1 | refine below_set ?_ GE236.out | refine below_set ?_ GE237.out | refine below_set ?_ GE246.out | refine below_set ?_ GE253.out | refine below_set ?_ GE262.out | refine below_set ?_ GE269.out) | exact HB.out)) hb); clear BK236; clear BK237; clear BK246; clear BK253; clear BK262; clear BK269; clear HB; have BK236 := n0_; have BK237 := n1_; have BK246 := n2_; have BK253 := n3_; have BK262 := n4_; have BK269 := n5_; have HB := n6_; clear n0_ n1_ n2_ n3_ n4_ n5_ n6_; (try clear hb); (try clear hb2); (try clear hk); (try clear hi); have hcz109_0 : w108.cell? ⟨gb262, 0, none⟩ = some (.int .u32 t256) := (blk_cell BK262.out 0).trans rfl; have hcz109_1 : w108.cell? ⟨gb262, 1, none⟩ = some (.int .u32 t257) := (blk_cell BK262.out 1).trans rfl; have hcz109_2 : w108.cell? ⟨gb262, 2, none⟩ = some (.int .i64 t258) := (blk_cell BK262.out 2).trans rfl; have hcz109_3 : w108.cell? ⟨gb262, 3, none⟩ = some (.int .i64 t259) := (blk_cell BK262.out 3).trans rfl; have hcz109_4 : w108.cell? ⟨gb262, 4, none⟩ = some (.int .i64 t260) := (blk_cell BK262.out 4).trans rfl; have hfz109_0 := blk_frozen BK262.out 0; have hfz109_1 := blk_frozen BK262.out 1; have hfz109_2 := blk_frozen BK262.out 2; have hfz109_3 := blk_frozen BK262.out 3; have hfz109_4 := blk_frozen BK262.out 4; have hnb110 := NB246_236.out; have hnc110 := NB236_246.out; have hnb111 := NB246_253.out; have hnc111 := NB253_246.out; have hcz112_0 : w108.cell? ⟨gb246, 0, none⟩ = some (.int .u32 x247000_2) := (blk_cell BK246.out 0).trans rfl; have hcz112_1 : w108.cell? ⟨gb246, 1, none⟩ = some (.int .u32 x247001_2) := (blk_cell BK246.out 1).trans rfl; have hcz112_2 : w108.cell? ⟨gb246, 2, none⟩ = some (.int .i64 x247002_2) := (blk_cell BK246.out 2).trans rfl; have hcz112_3 : w108.cell? ⟨gb246, 3, none⟩ = some (.int .i64 x247003_2) := (blk_cell BK246.out 3).trans rfl; have hcz112_4 : w108.cell? ⟨gb246, 4, none⟩ = some (.int .i64 x247004_2) := (blk_cell BK246.out 4).trans rfl; have hfz112_0 := blk_frozen BK246.out 0; have hfz112_1 := blk_frozen BK246.out 1; have hfz112_2 := blk_frozen BK246.out 2; have hfz112_3 := blk_frozen BK246.out 3; have hfz112_4 := blk_frozen BK246.out 4; have hcz113_0 : w108.cell? ⟨gb269, 0, none⟩ = some (.int .u32 t270) := (blk_cell BK269.out 0).trans rfl; have hcz113_1 : w108.cell? ⟨gb269, 1, none⟩ = some (.int .u32 t271) := (blk_cell BK269.out 1).trans rfl; have hcz113_2 : w108.cell? ⟨gb269, 2, none⟩ = some (.int .i64 t272) := (blk_cell BK269.out 2).trans rfl; have hcz113_3 : w108.cell? ⟨gb269, 3, none⟩ = some (.int .i64 t273) := (blk_cell BK269.out 3).trans rfl; have hcz113_4 : w108.cell? ⟨gb269, 4, none⟩ = some (.int .i64 t274) := (blk_cell BK269.out 4).trans rfl; have hfz113_0 := blk_frozen BK269.out 0; have hfz113_1 := blk_frozen BK269.out 1; have hfz113_2 := blk_frozen BK269.out 2; have hfz113_3 := blk_frozen BK269.out 3; have hfz113_4 := blk_frozen BK269.out 4; have hnb114 := NB253_236.out; have hnc114 := NB236_253.out; have hcz115_0 : w108.cell? ⟨gb253, 0, none⟩ = some (.int .u32 x254000_2) := (blk_cell BK253.out 0).trans rfl; have hcz115_1 : w108.cell? ⟨gb253, 1, none⟩ = some (.int .u32 x254001_2) := (blk_cell BK253.out 1).trans rfl; have hcz115_2 : w108.cell? ⟨gb253, 2, none⟩ = some (.int .i64 x254002_2) := (blk_cell BK253.out 2).trans rfl; have hcz115_3 : w108.cell? ⟨gb253, 3, none⟩ = some (.int .i64 x254003_2) := (blk_cell BK253.out 3).trans rfl; have hcz115_4 : w108.cell? ⟨gb253, 4, none⟩ = some (.int .i64 x254004_2) := (blk_cell BK253.out 4).trans rfl; have hfz115_0 := blk_frozen BK253.out 0; have hfz115_1 := blk_frozen BK253.out 1; have hfz115_2 := blk_frozen BK253.out 2; have hfz115_3 := blk_frozen BK253.out 3; have hfz115_4 := blk_frozen BK253.out 4))
                        go_roundg kj57
                        case measure => have := HJ2.out; have := HK2.out; have := HJ57.out; omega
                        case rel => exact ⟨(wrap64 (x12_2 + 1)), (t275), (t276), (t277), (t278), (t279), (t270), (t271), (t272), (t273), (t274), (by first | rfl | (simp; done) | (simp [*]; done)), H', ⟨by have := HJ2.out; have := HK2.out; have := HJ57.out; omega⟩, ⟨by (with_reducible repeat (first | refine blk_drewN ?_ _ | refine blk_drew ?_ | refine blk_alloc ?_ _)); refine blk_far ?_ NB236_253.out _; (with_reducible repeat (first | refine blk_drewN ?_ _ | refine blk_drew ?_ | refine blk_alloc ?_ _)); refine blk_far ?_ NB236_253.out _; (with_reducible repeat (first | refine blk_drewN ?_ _ | refine blk_drew ?_ | refine blk_alloc ?_ _)); refine blk_far ?_ NB236_253.out _; (with_reducible repeat (first | refine blk_drewN ?_ _ | refine blk_drew ?_ | refine blk_alloc ?_ _)); refine blk_far ?_ NB236_253.out _; (with_reducible repeat (first | refine blk_drewN ?_ _ | refine blk_drew ?_ | refine blk_alloc ?_ _)); refine blk_far ?_ NB236_253.out _; (with_reducible repeat (first | refine blk_drewN ?_ _ | refine blk_drew ?_ | refine blk_alloc ?_ _)); refine blk_far ?_ NB236_246.out _; (with_reducible repeat (first | refine blk_drewN ?_ _ | refine blk_drew ?_ | refine blk_alloc ?_ _)); refine blk_far ?_ NB236_246.out _; (with_reducible repeat (first | refine blk_drewN ?_ _ | refine blk_drew ?_ | refine blk_alloc ?_ _)); refine blk_far ?_ NB236_246.out _; (with_reducible repeat (first | refine blk_drewN ?_ _ | refine blk_drew ?_ | refine blk_alloc ?_ _)); refine blk_far ?_ NB236_246.out _; (with_reducible repeat (first | refine blk_drewN ?_ _ | refine blk_drew ?_ | refine blk_alloc ?_ _)); refine blk_far ?_ NB236_246.out _; (with_reducible repeat (first | refine blk_drewN ?_ _ | refine blk_drew ?_ | refine blk_alloc ?_ _)); refine blk_far ?_ NB236_262.out _; (with_reducible repeat (first | refine blk_drewN ?_ _ | refine blk_drew ?_ | refine blk_alloc ?_ _)); refine blk_far ?_ NB236_262.out _; (with_reducible repeat (first | refine blk_drewN ?_ _ | refine blk_drew ?_ | refine blk_alloc ?_ _)); refine blk_far ?_ NB236_262.out _; (with_reducible repeat (first | refine blk_drewN ?_ _ | refine blk_drew ?_ | refine blk_alloc ?_ _)); refine blk_far ?_ NB236_262.out _; (with_reducible repeat (first | refine blk_drewN ?_ _ | refine blk_drew ?_ | refine blk_alloc ?_ _)); refine blk_far ?_ NB236_262.out _; (with_reducible repeat (first | refine blk_drewN ?_ _ | refine blk_drew ?_ | refine blk_alloc ?_ _)); exact BK236.out⟩, ⟨by (with_reducible repeat (first | refine blk_drewN ?_ _ | refine blk_drew ?_ | refine blk_alloc ?_ _)); refine blk_far ?_ NB237_253.out _; (with_reducible repeat (first | refine blk_drewN ?_ _ | refine blk_drew ?_ | refine blk_alloc ?_ _)); refine blk_far ?_ NB237_253.out _; (with_reducible repeat (first | refine blk_drewN ?_ _ | refine blk_drew ?_ | refine blk_alloc ?_ _)); refine blk_far ?_ NB237_253.out _; (with_reducible repeat (first | refine blk_drewN ?_ _ | refine blk_drew ?_ | refine blk_alloc ?_ _)); refine blk_far ?_ NB237_253.out _; (with_reducible repeat (first | refine blk_drewN ?_ _ | refine blk_drew ?_ | refine blk_alloc ?_ _)); refine blk_far ?_ NB237_253.out _; (with_reducible repeat (first | refine blk_drewN ?_ _ | refine blk_drew ?_ | refine blk_alloc ?_ _)); refine blk_far ?_ NB237_246.out _; (with_reducible repeat (first | refine blk_drewN ?_ _ | refine blk_drew ?_ | refine blk_alloc ?_ _)); refine blk_far ?_ NB237_246.out _; (with_reducible repeat (first | refine blk_drewN ?_ _ | refine blk_drew ?_ | refine blk_alloc ?_ _)); refine blk_far ?_ NB237_246.out _; (with_reducible repeat (first | refine blk_drewN ?_ _ | refine blk_drew ?_ | refine blk_alloc ?_ _)); refine blk_far ?_ NB237_246.out _; (with_reducible repeat (first | refine blk_drewN ?_ _ | refine blk_drew ?_ | refine blk_alloc ?_ _)); refine blk_far ?_ NB237_246.out _; (with_reducible repeat (first | refine blk_drewN ?_ _ | refine blk_drew ?_ | refine blk_alloc ?_ _)); refine blk_far ?_ NB237_262.out _; (with_reducible repeat (first | refine blk_drewN ?_ _ | refine blk_drew ?_ | refine blk_alloc ?_ _)); refine blk_far ?_ NB237_262.out _; (with_reducible repeat (first | refine blk_drewN ?_ _ | refine blk_drew ?_ | refine blk_alloc ?_ _)); refine blk_far ?_ NB237_262.out _; (with_reducible repeat (first | refine blk_drewN ?_ _ | refine blk_drew ?_ | refine blk_alloc ?_ _)); refine blk_far ?_ NB237_262.out _; (with_reducible repeat (first | refine blk_drewN ?_ _ | refine blk_drew ?_ | refine blk_alloc ?_ _)); refine blk_far ?_ NB237_262.out _; (with_reducible repeat (first | refine blk_drewN ?_ _ | refine blk_drew ?_ | refine blk_alloc ?_ _)); exact BK237.out⟩, ⟨by (with_reducible repeat (first | refine blk_drewN ?_ _ | refine blk_drew ?_ | refine blk_alloc ?_ _)); refine blk_far ?_ NB246_253.out _; (with_reducible repeat (first | refine blk_drewN ?_ _ | refine blk_drew ?_ | refine blk_alloc ?_ _)); refine blk_far ?_ NB246_253.out _; (with_reducible repeat (first | refine blk_drewN ?_ _ | refine blk_drew ?_ | refine blk_alloc ?_ _)); refine blk_far ?_ NB246_253.out _; (with_reducible repeat (first | refine blk_drewN ?_ _ | refine blk_drew ?_ | refine blk_alloc ?_ _)); refine blk_far ?_ NB246_253.out _; (with_reducible repeat (first | refine blk_drewN ?_ _ | refine blk_drew ?_ | refine blk_alloc ?_ _)); refine blk_far ?_ NB246_253.out _; (with_reducible repeat (first | refine blk_drewN ?_ _ | refine blk_drew ?_ | refine blk_alloc ?_ _)); refine blk_put (cs := #[.int .u32 t275, .int .u32 t276, .int .i64 t277, .int .i64 t278, .int .i64 x247004_2]) ?_ 4 _ rfl; (with_reducible repeat (first | refine blk_drewN ?_ _ | refine blk_drew ?_ | refine blk_alloc ?_ _)); refine blk_put (cs := #[.int .u32 t275, .int .u32 t276, .int .i64 t277, .int .i64 x247003_2, .int .i64 x247004_2]) ?_ 3 _ rfl; (with_reducible repeat (first | refine blk_drewN ?_ _ | refine blk_drew ?_ | refine blk_alloc ?_ _)); refine blk_put (cs := #[.int .u32 t275, .int .u32 t276, .int .i64 x247002_2, .int .i64 x247003_2, .int .i64 x247004_2]) ?_ 2 _ rfl; (with_reducible repeat (first | refine blk_drewN ?_ _ | refine blk_drew ?_ | refine blk_alloc ?_ _)); refine blk_put (cs := #[.int .u32 t275, .int .u32 x247001_2, .int .i64 x247002_2, .int .i64 x247003_2, .int .i64 x247004_2]) ?_ 1 _ rfl; (with_reducible repeat (first | refine blk_drewN ?_ _ | refine blk_drew ?_ | refine blk_alloc ?_ _)); refine blk_put (cs := #[.int .u32 x247000_2, .int .u32 x247001_2, .int .i64 x247002_2, .int .i64 x247003_2, .int .i64 x247004_2]) ?_ 0 _ rfl; (with_reducible repeat (first | refine blk_drewN ?_ _ | refine blk_drew ?_ | refine blk_alloc ?_ _)); refine blk_far ?_ NB246_262.out _; (with_reducible repeat (first | refine blk_drewN ?_ _ | refine blk_drew ?_ | refine blk_alloc ?_ _)); refine blk_far ?_ NB246_262.out _; (with_reducible repeat (first | refine blk_drewN ?_ _ | refine blk_drew ?_ | refine blk_alloc ?_ _)); refine blk_far ?_ NB246_262.out _; (with_reducible repeat (first | refine blk_drewN ?_ _ | refine blk_drew ?_ | refine blk_alloc ?_ _)); refine blk_far ?_ NB246_262.out _; (with_reducible repeat (first | refine blk_drewN ?_ _ | refine blk_drew ?_ | refine blk_alloc ?_ _)); refine blk_far ?_ NB246_262.out _; (with_reducible repeat (first | refine blk_drewN ?_ _ | refine blk_drew ?_ | refine blk_alloc ?_ _)); exact BK246.out⟩, ⟨by (with_reducible repeat (first | refine blk_drewN ?_ _ | refine blk_drew ?_ | refine blk_alloc ?_ _)); refine blk_put (cs := #[.int .u32 t270, .int .u32 t271, .int .i64 t272, .int .i64 t273, .int .i64 x254004_2]) ?_ 4 _ rfl; (with_reducible repeat (first | refine blk_drewN ?_ _ | refine blk_drew ?_ | refine blk_alloc ?_ _)); refine blk_put (cs := #[.int .u32 t270, .int .u32 t271, .int .i64 t272, .int .i64 x254003_2, .int .i64 x254004_2]) ?_ 3 _ rfl; (with_reducible repeat (first | refine blk_drewN ?_ _ | refine blk_drew ?_ | refine blk_alloc ?_ _)); refine blk_put (cs := #[.int .u32 t270, .int .u32 t271, .int .i64 x254002_2, .int .i64 x254003_2, .int .i64 x254004_2]) ?_ 2 _ rfl; (with_reducible repeat (first | refine blk_drewN ?_ _ | refine blk_drew ?_ | refine blk_alloc ?_ _)); refine blk_put (cs := #[.int .u32 t270, .int .u32 x254001_2, .int .i64 x254002_2, .int .i64 x254003_2, .int .i64 x254004_2]) ?_ 1 _ rfl; (with_reducible repeat (first | refine blk_drewN ?_ _ | refine blk_drew ?_ | refine blk_alloc ?_ _)); refine blk_put (cs := #[.int .u32 x254000_2, .int .u32 x254001_2, .int .i64 x254002_2, .int .i64 x254003_2, .int .i64 x254004_2]) ?_ 0 _ rfl; (with_reducible repeat (first | refine blk_drewN ?_ _ | refine blk_drew ?_ | refine blk_alloc ?_ _)); refine blk_far ?_ NB253_246.out _; (with_reducible repeat (first | refine blk_drewN ?_ _ | refine blk_drew ?_ | refine blk_alloc ?_ _)); refine blk_far ?_ NB253_246.out _; (with_reducible repeat (first | refine blk_drewN ?_ _ | refine blk_drew ?_ | refine blk_alloc ?_ _)); refine blk_far ?_ NB253_246.out _; (with_reducible repeat (first | refine blk_drewN ?_ _ | refine blk_drew ?_ | refine blk_alloc ?_ _)); refine blk_far ?_ NB253_246.out _; (with_reducible repeat (first | refine blk_drewN ?_ _ | refine blk_drew ?_ | refine blk_alloc ?_ _)); refine blk_far ?_ NB253_246.out _; (with_reducible repeat (first | refine blk_drewN ?_ _ | refine blk_drew ?_ | refine blk_alloc ?_ _)); refine blk_far ?_ NB253_262.out _; (with_reducible repeat (first | refine blk_drewN ?_ _ | refine blk_drew ?_ | refine blk_alloc ?_ _)); refine blk_far ?_ NB253_262.out _; (with_reducible repeat (first | refine blk_drewN ?_ _ | refine blk_drew ?_ | refine blk_alloc ?_ _)); refine blk_far ?_ NB253_262.out _; (with_reducible repeat (first | refine blk_drewN ?_ _ | refine blk_drew ?_ | refine blk_alloc ?_ _)); refine blk_far ?_ NB253_262.out _; (with_reducible repeat (first | refine blk_drewN ?_ _ | refine blk_drew ?_ | refine blk_alloc ?_ _)); refine blk_far ?_ NB253_262.out _; (with_reducible repeat (first | refine blk_drewN ?_ _ | refine blk_drew ?_ | refine blk_alloc ?_ _)); exact BK253.out⟩, ⟨by repeat (first | (with_reducible first | exact HB.out | apply below_alloc | apply pw_below_drewN | apply below_drew1 | refine below_set ?_ GE236.out | refine below_set ?_ GE237.out | refine below_set ?_ GE246.out | refine below_set ?_ GE253.out | refine below_set ?_ GE262.out | refine below_set ?_ GE269.out) | exact HB.out)⟩⟩
                      · replace c88 := Bool.eq_false_iff.mpr c88
                        subst c88
                        have H1 : (stolonlaw10_QuerierOne.l0 kj57 a0_4 a0_5 a0_6 t238 (wrap64 (x12_2 + 1)) a0_0 a0_1 a0_2 a0_3 t256 t257 t258 t259 t260 t270 t271 t272 t273 t274) = some r := by rw [if_neg (show ¬ (false = true) by decide)] at H; exact H
                        clear H
                        have H := H1
                        clear H1
                        have H' := Aside0.mk H
                        clear H
                        have hnb116 := NB237_236.out
                        have hnc116 := NB236_237.out
                        have hnb117 := NB237_246.out
                        have hnc117 := NB246_237.out
                        have hnb118 := NB237_253.out
                        have hnc118 := NB253_237.out
                        have hnb119 := NB237_262.out
                        have hnc119 := NB262_237.out
                        have hnb120 := NB237_269.out
                        have hnc120 := NB269_237.out
                        have hcz121_0 : wc.cell? ⟨gb237, 0, none⟩ = some (.int .i64 a0_0) := (blk_cell BK237.out 0).trans rfl
                        have hcz121_1 : wc.cell? ⟨gb237, 1, none⟩ = some (.int .i64 a0_1) := (blk_cell BK237.out 1).trans rfl
                        have hcz121_2 : wc.cell? ⟨gb237, 2, none⟩ = some (.int .i64 a0_2) := (blk_cell BK237.out 2).trans rfl
                        have hcz121_3 : wc.cell? ⟨gb237, 3, none⟩ = some (.int .i64 a0_3) := (blk_cell BK237.out 3).trans rfl
                        have hfz121_0 := blk_frozen BK237.out 0
                        have hfz121_1 := blk_frozen BK237.out 1
                        have hfz121_2 := blk_frozen BK237.out 2
                        have hfz121_3 := blk_frozen BK237.out 3
                        have hnb122 := NB269_236.out
                        have hnc122 := NB236_269.out
                        have hnb123 := NB269_246.out
                        have hnc123 := NB246_269.out
                        have hnb124 := NB269_253.out
                        have hnc124 := NB253_269.out
                        have hnb125 := NB269_262.out
                        have hnc125 := NB262_269.out
                        have hcz126_0 : wc.cell? ⟨gb269, 0, none⟩ = some (.int .u32 t263) := (blk_cell BK269.out 0).trans rfl
                        have hcz126_1 : wc.cell? ⟨gb269, 1, none⟩ = some (.int .u32 t264) := (blk_cell BK269.out 1).trans rfl
                        have hcz126_2 : wc.cell? ⟨gb269, 2, none⟩ = some (.int .i64 t265) := (blk_cell BK269.out 2).trans rfl
                        have hcz126_3 : wc.cell? ⟨gb269, 3, none⟩ = some (.int .i64 t266) := (blk_cell BK269.out 3).trans rfl
                        have hcz126_4 : wc.cell? ⟨gb269, 4, none⟩ = some (.int .i64 t267) := (blk_cell BK269.out 4).trans rfl
                        have hfz126_0 := blk_frozen BK269.out 0
                        have hfz126_1 := blk_frozen BK269.out 1
                        have hfz126_2 := blk_frozen BK269.out 2
                        have hfz126_3 := blk_frozen BK269.out 3
                        have hfz126_4 := blk_frozen BK269.out 4
                        go_wp2_with (first | ((with_reducible refine gate_callee (f := 19) rfl ?_); refine goesL_ (some 96) rfl rfl Try.func19 (by kernel_rfl) rfl #[.agg #[.int .i64 a0_0, .int .i64 a0_1, .int .i64 a0_2, .int .i64 a0_3], .agg #[.int .u32 t263, .int .u32 t264, .int .i64 t265, .int .i64 t266, .int .i64 t267], .int .u32 a0_4] rfl (by (try simp only [List.map_toArray, List.map_cons, List.map_nil]); first | done | rfl | (simp only [List.length_drop, List.length_take]; rfl)) ?_; (with_reducible refine (querier_Hear.calls a0_0 a0_1 a0_2 a0_3 t263 t264 t265 t266 t267 a0_4 t270 t271 t272 t273 t274 _ A87.out).mono ?_); rintro e w127 ⟨rfl, hb⟩; refine ⟨_, rfl, ?_⟩; have n0_ := Aside0.mk (blk_below (g := gb236) (o := .cells #[.int .i64 a0_0, .int .i64 a0_1, .int .i64 a0_2, .int .i64 a0_3, .int .u32 a0_4, .int .u32 a0_5, .int .u8 a0_6] 42 (0, 0)) (by (with_reducible repeat (first | refine blk_drewN ?_ _ | refine blk_drew ?_ | refine blk_alloc ?_ _)); exact BK236.out) hb); have n1_ := Aside0.mk (blk_below (g := gb237) (o := .cells #[.int .i64 a0_0, .int .i64 a0_1, .int .i64 a0_2, .int .i64 a0_3] 23 (0, 0)) (by (with_reducible repeat (first | refine blk_drewN ?_ _ | refine blk_drew ?_ | refine blk_alloc ?_ _)); exact BK237.out) hb); have n2_ := Aside0.mk (blk_below (g := gb246) (o := .cells #[.int .u32 x247000_2, .int .u32 x247001_2, .int .i64 x247002_2, .int .i64 x247003_2, .int .i64 x247004_2] 27 (0, 0)) (by (with_reducible repeat (first | refine blk_drewN ?_ _ | refine blk_drew ?_ | refine blk_alloc ?_ _)); exact BK246.out) hb); have n3_ := Aside0.mk (blk_below (g := gb253) (o := .cells #[.int .u32 x254000_2, .int .u32 x254001_2, .int .i64 x254002_2, .int .i64 x254003_2, .int .i64 x254004_2] 27 (0, 0)) (by (with_reducible repeat (first | refine blk_drewN ?_ _ | refine blk_drew ?_ | refine blk_alloc ?_ _)); exact BK253.out) hb); have n4_ := Aside0.mk (blk_below (g := gb262) (o := .cells #[.int .u32 t256, .int .u32 t257, .int .i64 t258, .int .i64 t259, .int .i64 t260] 27 (0, 0)) (by (with_reducible repeat (first | refine blk_drewN ?_ _ | refine blk_drew ?_ | refine blk_alloc ?_ _)); exact BK262.out) hb); have n5_ := Aside0.mk (blk_below (g := gb269) (o := .cells #[.int .u32 t263, .int .u32 t264, .int .i64 t265, .int .i64 t266, .int .i64 t267] 27 (0, 0)) (by (with_reducible repeat (first | refine blk_drewN ?_ _ | refine blk_drew ?_ | refine blk_alloc ?_ _)); exact BK269.out) hb); have n6_ := Aside0.mk (below_step (by repeat (first | (with_reducible first | exact HB.out | apply below_alloc | apply pw_below_drewN | apply below_drew1 | refine below_set ?_ GE236.out | refine below_set ?_ GE237.out | refine below_set ?_ GE246.out | refine below_set ?_ GE253.out | refine below_set ?_ GE262.out | refine below_set ?_ GE269.out) | exact HB.out)) hb); clear BK236; clear BK237; clear BK246; clear BK253; clear BK262; clear BK269; clear HB; have BK236 := n0_; have BK237 := n1_; have BK246 := n2_; have BK253 := n3_; have BK262 := n4_; have BK269 := n5_; have HB := n6_; clear n0_ n1_ n2_ n3_ n4_ n5_ n6_; (try clear hb); (try clear hb2); (try clear hk); (try clear hi); have hcz128_0 : w127.cell? ⟨gb269, 0, none⟩ = some (.int .u32 t263) := (blk_cell BK269.out 0).trans rfl; have hcz128_1 : w127.cell? ⟨gb269, 1, none⟩ = some (.int .u32 t264) := (blk_cell BK269.out 1).trans rfl; have hcz128_2 : w127.cell? ⟨gb269, 2, none⟩ = some (.int .i64 t265) := (blk_cell BK269.out 2).trans rfl; have hcz128_3 : w127.cell? ⟨gb269, 3, none⟩ = some (.int .i64 t266) := (blk_cell BK269.out 3).trans rfl; have hcz128_4 : w127.cell? ⟨gb269, 4, none⟩ = some (.int .i64 t267) := (blk_cell BK269.out 4).trans rfl; have hfz128_0 := blk_frozen BK269.out 0; have hfz128_1 := blk_frozen BK269.out 1; have hfz128_2 := blk_frozen BK269.out 2; have hfz128_3 := blk_frozen BK269.out 3; have hfz128_4 := blk_frozen BK269.out 4; have hnb129 := NB262_236.out; have hnc129 := NB236_262.out; have hnb130 := NB262_246.out; have hnc130 := NB246_262.out; have hnb131 := NB262_253.out; have hnc131 := NB253_262.out; have hcz132_0 : w127.cell? ⟨gb262, 0, none⟩ = some (.int .u32 t256) := (blk_cell BK262.out 0).trans rfl; have hcz132_1 : w127.cell? ⟨gb262, 1, none⟩ = some (.int .u32 t257) := (blk_cell BK262.out 1).trans rfl; have hcz132_2 : w127.cell? ⟨gb262, 2, none⟩ = some (.int .i64 t258) := (blk_cell BK262.out 2).trans rfl; have hcz132_3 : w127.cell? ⟨gb262, 3, none⟩ = some (.int .i64 t259) := (blk_cell BK262.out 3).trans rfl; have hcz132_4 : w127.cell? ⟨gb262, 4, none⟩ = some (.int .i64 t260) := (blk_cell BK262.out 4).trans rfl; have hfz132_0 := blk_frozen BK262.out 0; have hfz132_1 := blk_frozen BK262.out 1; have hfz132_2 := blk_frozen BK262.out 2; have hfz132_3 := blk_frozen BK262.out 3; have hfz132_4 := blk_frozen BK262.out 4; have hnb133 := NB246_236.out; have hnc133 := NB236_246.out; have hnb134 := NB246_253.out; have hnc134 := NB253_246.out; have hcz135_0 : w127.cell? ⟨gb246, 0, none⟩ = some (.int .u32 x247000_2) := (blk_cell BK246.out 0).trans rfl; have hcz135_1 : w127.cell? ⟨gb246, 1, none⟩ = some (.int .u32 x247001_2) := (blk_cell BK246.out 1).trans rfl; have hcz135_2 : w127.cell? ⟨gb246, 2, none⟩ = some (.int .i64 x247002_2) := (blk_cell BK246.out 2).trans rfl; have hcz135_3 : w127.cell? ⟨gb246, 3, none⟩ = some (.int .i64 x247003_2) := (blk_cell BK246.out 3).trans rfl; have hcz135_4 : w127.cell? ⟨gb246, 4, none⟩ = some (.int .i64 x247004_2) := (blk_cell BK246.out 4).trans rfl; have hfz135_0 := blk_frozen BK246.out 0; have hfz135_1 := blk_frozen BK246.out 1; have hfz135_2 := blk_frozen BK246.out 2; have hfz135_3 := blk_frozen BK246.out 3; have hfz135_4 := blk_frozen BK246.out 4; have hnb136 := NB253_236.out; have hnc136 := NB236_253.out; have hcz137_0 : w127.cell? ⟨gb253, 0, none⟩ = some (.int .u32 x254000_2) := (blk_cell BK253.out 0).trans rfl; have hcz137_1 : w127.cell? ⟨gb253, 1, none⟩ = some (.int .u32 x254001_2) := (blk_cell BK253.out 1).trans rfl; have hcz137_2 : w127.cell? ⟨gb253, 2, none⟩ = some (.int .i64 x254002_2) := (blk_cell BK253.out 2).trans rfl; have hcz137_3 : w127.cell? ⟨gb253, 3, none⟩ = some (.int .i64 x254003_2) := (blk_cell BK253.out 3).trans rfl; have hcz137_4 : w127.cell? ⟨gb253, 4, none⟩ = some (.int .i64 x254004_2) := (blk_cell BK253.out 4).trans rfl; have hfz137_0 := blk_frozen BK253.out 0; have hfz137_1 := blk_frozen BK253.out 1; have hfz137_2 := blk_frozen BK253.out 2; have hfz137_3 := blk_frozen BK253.out 3; have hfz137_4 := blk_frozen BK253.out 4))
                        go_roundg kj57
                        case measure => have := HJ2.out; have := HK2.out; have := HJ57.out; omega
                        case rel => exact ⟨(wrap64 (x12_2 + 1)), (t256), (t257), (t258), (t259), (t260), (t270), (t271), (t272), (t273), (t274), (by first | rfl | (simp; done) | (simp [*]; done)), H', ⟨by have := HJ2.out; have := HK2.out; have := HJ57.out; omega⟩, ⟨by (with_reducible repeat (first | refine blk_drewN ?_ _ | refine blk_drew ?_ | refine blk_alloc ?_ _)); refine blk_far ?_ NB236_253.out _; (with_reducible repeat (first | refine blk_drewN ?_ _ | refine blk_drew ?_ | refine blk_alloc ?_ _)); refine blk_far ?_ NB236_253.out _; (with_reducible repeat (first | refine blk_drewN ?_ _ | refine blk_drew ?_ | refine blk_alloc ?_ _)); refine blk_far ?_ NB236_253.out _; (with_reducible repeat (first | refine blk_drewN ?_ _ | refine blk_drew ?_ | refine blk_alloc ?_ _)); refine blk_far ?_ NB236_253.out _; (with_reducible repeat (first | refine blk_drewN ?_ _ | refine blk_drew ?_ | refine blk_alloc ?_ _)); refine blk_far ?_ NB236_253.out _; (with_reducible repeat (first | refine blk_drewN ?_ _ | refine blk_drew ?_ | refine blk_alloc ?_ _)); refine blk_far ?_ NB236_246.out _; (with_reducible repeat (first | refine blk_drewN ?_ _ | refine blk_drew ?_ | refine blk_alloc ?_ _)); refine blk_far ?_ NB236_246.out _; (with_reducible repeat (first | refine blk_drewN ?_ _ | refine blk_drew ?_ | refine blk_alloc ?_ _)); refine blk_far ?_ NB236_246.out _; (with_reducible repeat (first | refine blk_drewN ?_ _ | refine blk_drew ?_ | refine blk_alloc ?_ _)); refine blk_far ?_ NB236_246.out _; (with_reducible repeat (first | refine blk_drewN ?_ _ | refine blk_drew ?_ | refine blk_alloc ?_ _)); refine blk_far ?_ NB236_246.out _; (with_reducible repeat (first | refine blk_drewN ?_ _ | refine blk_drew ?_ | refine blk_alloc ?_ _)); refine blk_far ?_ NB236_269.out _; (with_reducible repeat (first | refine blk_drewN ?_ _ | refine blk_drew ?_ | refine blk_alloc ?_ _)); refine blk_far ?_ NB236_269.out _; (with_reducible repeat (first | refine blk_drewN ?_ _ | refine blk_drew ?_ | refine blk_alloc ?_ _)); refine blk_far ?_ NB236_269.out _; (with_reducible repeat (first | refine blk_drewN ?_ _ | refine blk_drew ?_ | refine blk_alloc ?_ _)); refine blk_far ?_ NB236_269.out _; (with_reducible repeat (first | refine blk_drewN ?_ _ | refine blk_drew ?_ | refine blk_alloc ?_ _)); refine blk_far ?_ NB236_269.out _; (with_reducible repeat (first | refine blk_drewN ?_ _ | refine blk_drew ?_ | refine blk_alloc ?_ _)); exact BK236.out⟩, ⟨by (with_reducible repeat (first | refine blk_drewN ?_ _ | refine blk_drew ?_ | refine blk_alloc ?_ _)); refine blk_far ?_ NB237_253.out _; (with_reducible repeat (first | refine blk_drewN ?_ _ | refine blk_drew ?_ | refine blk_alloc ?_ _)); refine blk_far ?_ NB237_253.out _; (with_reducible repeat (first | refine blk_drewN ?_ _ | refine blk_drew ?_ | refine blk_alloc ?_ _)); refine blk_far ?_ NB237_253.out _; (with_reducible repeat (first | refine blk_drewN ?_ _ | refine blk_drew ?_ | refine blk_alloc ?_ _)); refine blk_far ?_ NB237_253.out _; (with_reducible repeat (first | refine blk_drewN ?_ _ | refine blk_drew ?_ | refine blk_alloc ?_ _)); refine blk_far ?_ NB237_253.out _; (with_reducible repeat (first | refine blk_drewN ?_ _ | refine blk_drew ?_ | refine blk_alloc ?_ _)); refine blk_far ?_ NB237_246.out _; (with_reducible repeat (first | refine blk_drewN ?_ _ | refine blk_drew ?_ | refine blk_alloc ?_ _)); refine blk_far ?_ NB237_246.out _; (with_reducible repeat (first | refine blk_drewN ?_ _ | refine blk_drew ?_ | refine blk_alloc ?_ _)); refine blk_far ?_ NB237_246.out _; (with_reducible repeat (first | refine blk_drewN ?_ _ | refine blk_drew ?_ | refine blk_alloc ?_ _)); refine blk_far ?_ NB237_246.out _; (with_reducible repeat (first | refine blk_drewN ?_ _ | refine blk_drew ?_ | refine blk_alloc ?_ _)); refine blk_far ?_ NB237_246.out _; (with_reducible repeat (first | refine blk_drewN ?_ _ | refine blk_drew ?_ | refine blk_alloc ?_ _)); refine blk_far ?_ NB237_269.out _; (with_reducible repeat (first | refine blk_drewN ?_ _ | refine blk_drew ?_ | refine blk_alloc ?_ _)); refine blk_far ?_ NB237_269.out _; (with_reducible repeat (first | refine blk_drewN ?_ _ | refine blk_drew ?_ | refine blk_alloc ?_ _)); refine blk_far ?_ NB237_269.out _; (with_reducible repeat (first | refine blk_drewN ?_ _ | refine blk_drew ?_ | refine blk_alloc ?_ _)); refine blk_far ?_ NB237_269.out _; (with_reducible repeat (first | refine blk_drewN ?_ _ | refine blk_drew ?_ | refine blk_alloc ?_ _)); refine blk_far ?_ NB237_269.out _; (with_reducible repeat (first | refine blk_drewN ?_ _ | refine blk_drew ?_ | refine blk_alloc ?_ _)); exact BK237.out⟩, ⟨by (with_reducible repeat (first | refine blk_drewN ?_ _ | refine blk_drew ?_ | refine blk_alloc ?_ _)); refine blk_far ?_ NB246_253.out _; (with_reducible repeat (first | refine blk_drewN ?_ _ | refine blk_drew ?_ | refine blk_alloc ?_ _)); refine blk_far ?_ NB246_253.out _; (with_reducible repeat (first | refine blk_drewN ?_ _ | refine blk_drew ?_ | refine blk_alloc ?_ _)); refine blk_far ?_ NB246_253.out _; (with_reducible repeat (first | refine blk_drewN ?_ _ | refine blk_drew ?_ | refine blk_alloc ?_ _)); refine blk_far ?_ NB246_253.out _; (with_reducible repeat (first | refine blk_drewN ?_ _ | refine blk_drew ?_ | refine blk_alloc ?_ _)); refine blk_far ?_ NB246_253.out _; (with_reducible repeat (first | refine blk_drewN ?_ _ | refine blk_drew ?_ | refine blk_alloc ?_ _)); refine blk_put (cs := #[.int .u32 t256, .int .u32 t257, .int .i64 t258, .int .i64 t259, .int .i64 x247004_2]) ?_ 4 _ rfl; (with_reducible repeat (first | refine blk_drewN ?_ _ | refine blk_drew ?_ | refine blk_alloc ?_ _)); refine blk_put (cs := #[.int .u32 t256, .int .u32 t257, .int .i64 t258, .int .i64 x247003_2, .int .i64 x247004_2]) ?_ 3 _ rfl; (with_reducible repeat (first | refine blk_drewN ?_ _ | refine blk_drew ?_ | refine blk_alloc ?_ _)); refine blk_put (cs := #[.int .u32 t256, .int .u32 t257, .int .i64 x247002_2, .int .i64 x247003_2, .int .i64 x247004_2]) ?_ 2 _ rfl; (with_reducible repeat (first | refine blk_drewN ?_ _ | refine blk_drew ?_ | refine blk_alloc ?_ _)); refine blk_put (cs := #[.int .u32 t256, .int .u32 x247001_2, .int .i64 x247002_2, .int .i64 x247003_2, .int .i64 x247004_2]) ?_ 1 _ rfl; (with_reducible repeat (first | refine blk_drewN ?_ _ | refine blk_drew ?_ | refine blk_alloc ?_ _)); refine blk_put (cs := #[.int .u32 x247000_2, .int .u32 x247001_2, .int .i64 x247002_2, .int .i64 x247003_2, .int .i64 x247004_2]) ?_ 0 _ rfl; (with_reducible repeat (first | refine blk_drewN ?_ _ | refine blk_drew ?_ | refine blk_alloc ?_ _)); refine blk_far ?_ NB246_269.out _; (with_reducible repeat (first | refine blk_drewN ?_ _ | refine blk_drew ?_ | refine blk_alloc ?_ _)); refine blk_far ?_ NB246_269.out _; (with_reducible repeat (first | refine blk_drewN ?_ _ | refine blk_drew ?_ | refine blk_alloc ?_ _)); refine blk_far ?_ NB246_269.out _; (with_reducible repeat (first | refine blk_drewN ?_ _ | refine blk_drew ?_ | refine blk_alloc ?_ _)); refine blk_far ?_ NB246_269.out _; (with_reducible repeat (first | refine blk_drewN ?_ _ | refine blk_drew ?_ | refine blk_alloc ?_ _)); refine blk_far ?_ NB246_269.out _; (with_reducible repeat (first | refine blk_drewN ?_ _ | refine blk_drew ?_ | refine blk_alloc ?_ _)); exact BK246.out⟩, ⟨by (with_reducible repeat (first | refine blk_drewN ?_ _ | refine blk_drew ?_ | refine blk_alloc ?_ _)); refine blk_put (cs := #[.int .u32 t270, .int .u32 t271, .int .i64 t272, .int .i64 t273, .int .i64 x254004_2]) ?_ 4 _ rfl; (with_reducible repeat (first | refine blk_drewN ?_ _ | refine blk_drew ?_ | refine blk_alloc ?_ _)); refine blk_put (cs := #[.int .u32 t270, .int .u32 t271, .int .i64 t272, .int .i64 x254003_2, .int .i64 x254004_2]) ?_ 3 _ rfl; (with_reducible repeat (first | refine blk_drewN ?_ _ | refine blk_drew ?_ | refine blk_alloc ?_ _)); refine blk_put (cs := #[.int .u32 t270, .int .u32 t271, .int .i64 x254002_2, .int .i64 x254003_2, .int .i64 x254004_2]) ?_ 2 _ rfl; (with_reducible repeat (first | refine blk_drewN ?_ _ | refine blk_drew ?_ | refine blk_alloc ?_ _)); refine blk_put (cs := #[.int .u32 t270, .int .u32 x254001_2, .int .i64 x254002_2, .int .i64 x254003_2, .int .i64 x254004_2]) ?_ 1 _ rfl; (with_reducible repeat (first | refine blk_drewN ?_ _ | refine blk_drew ?_ | refine blk_alloc ?_ _)); refine blk_put (cs := #[.int .u32 x254000_2, .int .u32 x254001_2, .int .i64 x254002_2, .int .i64 x254003_2, .int .i64 x254004_2]) ?_ 0 _ rfl; (with_reducible repeat (first | refine blk_drewN ?_ _ | refine blk_drew ?_ | refine blk_alloc ?_ _)); refine blk_far ?_ NB253_246.out _; (with_reducible repeat (first | refine blk_drewN ?_ _ | refine blk_drew ?_ | refine blk_alloc ?_ _)); refine blk_far ?_ NB253_246.out _; (with_reducible repeat (first | refine blk_drewN ?_ _ | refine blk_drew ?_ | refine blk_alloc ?_ _)); refine blk_far ?_ NB253_246.out _; (with_reducible repeat (first | refine blk_drewN ?_ _ | refine blk_drew ?_ | refine blk_alloc ?_ _)); refine blk_far ?_ NB253_246.out _; (with_reducible repeat (first | refine blk_drewN ?_ _ | refine blk_drew ?_ | refine blk_alloc ?_ _)); refine blk_far ?_ NB253_246.out _; (with_reducible repeat (first | refine blk_drewN ?_ _ | refine blk_drew ?_ | refine blk_alloc ?_ _)); refine blk_far ?_ NB253_269.out _; (with_reducible repeat (first | refine blk_drewN ?_ _ | refine blk_drew ?_ | refine blk_alloc ?_ _)); refine blk_far ?_ NB253_269.out _; (with_reducible repeat (first | refine blk_drewN ?_ _ | refine blk_drew ?_ | refine blk_alloc ?_ _)); refine blk_far ?_ NB253_269.out _; (with_reducible repeat (first | refine blk_drewN ?_ _ | refine blk_drew ?_ | refine blk_alloc ?_ _)); refine blk_far ?_ NB253_269.out _; (with_reducible repeat (first | refine blk_drewN ?_ _ | refine blk_drew ?_ | refine blk_alloc ?_ _)); refine blk_far ?_ NB253_269.out _; (with_reducible repeat (first | refine blk_drewN ?_ _ | refine blk_drew ?_ | refine blk_alloc ?_ _)); exact BK253.out⟩, ⟨by repeat (first | (with_reducible first | exact HB.out | apply below_alloc | apply pw_below_drewN | apply below_drew1 | refine below_set ?_ GE236.out | refine below_set ?_ GE237.out | refine below_set ?_ GE246.out | refine below_set ?_ GE253.out | refine below_set ?_ GE262.out | refine below_set ?_ GE269.out) | exact HB.out)⟩⟩
                    · replace c86 := Bool.eq_false_iff.mpr c86
                      subst c86
                      have H1 : (if t268 = true then ((querier_Hear.f a0_0 a0_1 a0_2 a0_3 t256 t257 t258 t259 t260 a0_5).bind fun bt280 => (stolonlaw10_QuerierOne.l0 kj57 a0_4 a0_5 a0_6 t238 (wrap64 (x12_2 + 1)) a0_0 a0_1 a0_2 a0_3 bt280.1 bt280.2.1 bt280.2.2.1 bt280.2.2.2.1 bt280.2.2.2.2 t263 t264 t265 t266 t267)) else (stolonlaw10_QuerierOne.l0 kj57 a0_4 a0_5 a0_6 t238 (wrap64 (x12_2 + 1)) a0_0 a0_1 a0_2 a0_3 t256 t257 t258 t259 t260 t263 t264 t265 t266 t267)) = some r := by rw [if_neg (show ¬ (false = true) by decide)] at H; exact H
                      clear H
                      have H := H1
                      clear H1
                      by_cases c138 : t268 = true
                      · subst c138
                        have H1 : ((querier_Hear.f a0_0 a0_1 a0_2 a0_3 t256 t257 t258 t259 t260 a0_5).bind fun bt280 => (stolonlaw10_QuerierOne.l0 kj57 a0_4 a0_5 a0_6 t238 (wrap64 (x12_2 + 1)) a0_0 a0_1 a0_2 a0_3 bt280.1 bt280.2.1 bt280.2.2.1 bt280.2.2.2.1 bt280.2.2.2.2 t263 t264 t265 t266 t267)) = some r := by rw [if_pos rfl] at H; exact H
                        clear H
                        have H := H1
                        clear H1
                        replace H := Option.bind_eq_some_iff.mp H
                        obtain ⟨⟨t280, t281, t282, t283, t284⟩, A1390, H⟩ := H
                        replace H : (stolonlaw10_QuerierOne.l0 kj57 a0_4 a0_5 a0_6 t238 (wrap64 (x12_2 + 1)) a0_0 a0_1 a0_2 a0_3 t280 t281 t282 t283 t284 t263 t264 t265 t266 t267) = some r := H
                        have A139 := Aside0.mk A1390
                        clear A1390
                        have H' := Aside0.mk H
                        clear H
                        have hnb140 := NB237_236.out
                        have hnc140 := NB236_237.out
                        have hnb141 := NB237_246.out
                        have hnc141 := NB246_237.out
                        have hnb142 := NB237_253.out
                        have hnc142 := NB253_237.out
                        have hnb143 := NB237_262.out
                        have hnc143 := NB262_237.out
                        have hnb144 := NB237_269.out
                        have hnc144 := NB269_237.out
                        have hcz145_0 : wc.cell? ⟨gb237, 0, none⟩ = some (.int .i64 a0_0) := (blk_cell BK237.out 0).trans rfl
                        have hcz145_1 : wc.cell? ⟨gb237, 1, none⟩ = some (.int .i64 a0_1) := (blk_cell BK237.out 1).trans rfl
                        have hcz145_2 : wc.cell? ⟨gb237, 2, none⟩ = some (.int .i64 a0_2) := (blk_cell BK237.out 2).trans rfl
                        have hcz145_3 : wc.cell? ⟨gb237, 3, none⟩ = some (.int .i64 a0_3) := (blk_cell BK237.out 3).trans rfl
                        have hfz145_0 := blk_frozen BK237.out 0
                        have hfz145_1 := blk_frozen BK237.out 1
                        have hfz145_2 := blk_frozen BK237.out 2
                        have hfz145_3 := blk_frozen BK237.out 3
                        have hnb146 := NB262_236.out
                        have hnc146 := NB236_262.out
                        have hnb147 := NB262_246.out
                        have hnc147 := NB246_262.out
                        have hnb148 := NB262_253.out
                        have hnc148 := NB253_262.out
                        have hnb149 := NB262_269.out
                        have hnc149 := NB269_262.out
                        have hcz150_0 : wc.cell? ⟨gb262, 0, none⟩ = some (.int .u32 t256) := (blk_cell BK262.out 0).trans rfl
                        have hcz150_1 : wc.cell? ⟨gb262, 1, none⟩ = some (.int .u32 t257) := (blk_cell BK262.out 1).trans rfl
                        have hcz150_2 : wc.cell? ⟨gb262, 2, none⟩ = some (.int .i64 t258) := (blk_cell BK262.out 2).trans rfl
                        have hcz150_3 : wc.cell? ⟨gb262, 3, none⟩ = some (.int .i64 t259) := (blk_cell BK262.out 3).trans rfl
                        have hcz150_4 : wc.cell? ⟨gb262, 4, none⟩ = some (.int .i64 t260) := (blk_cell BK262.out 4).trans rfl
                        have hfz150_0 := blk_frozen BK262.out 0
                        have hfz150_1 := blk_frozen BK262.out 1
                        have hfz150_2 := blk_frozen BK262.out 2
                        have hfz150_3 := blk_frozen BK262.out 3
                        have hfz150_4 := blk_frozen BK262.out 4
                        go_wp2_with (first | ((with_reducible refine gate_callee (f := 19) rfl ?_); refine goesL_ (some 101) rfl rfl Try.func19 (by kernel_rfl) rfl #[.agg #[.int .i64 a0_0, .int .i64 a0_1, .int .i64 a0_2, .int .i64 a0_3], .agg #[.int .u32 t256, .int .u32 t257, .int .i64 t258, .int .i64 t259, .int .i64 t260], .int .u32 a0_5] rfl (by (try simp only [List.map_toArray, List.map_cons, List.map_nil]); first | done | rfl | (simp only [List.length_drop, List.length_take]; rfl)) ?_; (with_reducible refine (querier_Hear.calls a0_0 a0_1 a0_2 a0_3 t256 t257 t258 t259 t260 a0_5 t280 t281 t282 t283 t284 _ A139.out).mono ?_); rintro e w151 ⟨rfl, hb⟩; refine ⟨_, rfl, ?_⟩; have n0_ := Aside0.mk (blk_below (g := gb236) (o := .cells #[.int .i64 a0_0, .int .i64 a0_1, .int .i64 a0_2, .int .i64 a0_3, .int .u32 a0_4, .int .u32 a0_5, .int .u8 a0_6] 42 (0, 0)) (by (with_reducible repeat (first | refine blk_drewN ?_ _ | refine blk_drew ?_ | refine blk_alloc ?_ _)); exact BK236.out) hb); have n1_ := Aside0.mk (blk_below (g := gb237) (o := .cells #[.int .i64 a0_0, .int .i64 a0_1, .int .i64 a0_2, .int .i64 a0_3] 23 (0, 0)) (by (with_reducible repeat (first | refine blk_drewN ?_ _ | refine blk_drew ?_ | refine blk_alloc ?_ _)); exact BK237.out) hb); have n2_ := Aside0.mk (blk_below (g := gb246) (o := .cells #[.int .u32 x247000_2, .int .u32 x247001_2, .int .i64 x247002_2, .int .i64 x247003_2, .int .i64 x247004_2] 27 (0, 0)) (by (with_reducible repeat (first | refine blk_drewN ?_ _ | refine blk_drew ?_ | refine blk_alloc ?_ _)); exact BK246.out) hb); have n3_ := Aside0.mk (blk_below (g := gb253) (o := .cells #[.int .u32 x254000_2, .int .u32 x254001_2, .int .i64 x254002_2, .int .i64 x254003_2, .int .i64 x254004_2] 27 (0, 0)) (by (with_reducible repeat (first | refine blk_drewN ?_ _ | refine blk_drew ?_ | refine blk_alloc ?_ _)); exact BK253.out) hb); have n4_ := Aside0.mk (blk_below (g := gb262) (o := .cells #[.int .u32 t256, .int .u32 t257, .int .i64 t258, .int .i64 t259, .int .i64 t260] 27 (0, 0)) (by (with_reducible repeat (first | refine blk_drewN ?_ _ | refine blk_drew ?_ | refine blk_alloc ?_ _)); exact BK262.out) hb); have n5_ := Aside0.mk (blk_below (g := gb269) (o := .cells #[.int .u32 t263, .int .u32 t264, .int .i64 t265, .int .i64 t266, .int .i64 t267] 27 (0, 0)) (by (with_reducible repeat (first | refine blk_drewN ?_ _ | refine blk_drew ?_ | refine blk_alloc ?_ _)); exact BK269.out) hb); have n6_ := Aside0.mk (below_step (by repeat (first | (with_reducible first | exact HB.out | apply below_alloc | apply pw_below_drewN | apply below_drew1 | refine below_set ?_ GE236.out | refine below_set ?_ GE237.out | refine below_set ?_ GE246.out | refine below_set ?_ GE253.out | refine below_set ?_ GE262.out | refine below_set ?_ GE269.out) | exact HB.out)) hb); clear BK236; clear BK237; clear BK246; clear BK253; clear BK262; clear BK269; clear HB; have BK236 := n0_; have BK237 := n1_; have BK246 := n2_; have BK253 := n3_; have BK262 := n4_; have BK269 := n5_; have HB := n6_; clear n0_ n1_ n2_ n3_ n4_ n5_ n6_; (try clear hb); (try clear hb2); (try clear hk); (try clear hi); have hcz152_0 : w151.cell? ⟨gb262, 0, none⟩ = some (.int .u32 t256) := (blk_cell BK262.out 0).trans rfl; have hcz152_1 : w151.cell? ⟨gb262, 1, none⟩ = some (.int .u32 t257) := (blk_cell BK262.out 1).trans rfl; have hcz152_2 : w151.cell? ⟨gb262, 2, none⟩ = some (.int .i64 t258) := (blk_cell BK262.out 2).trans rfl; have hcz152_3 : w151.cell? ⟨gb262, 3, none⟩ = some (.int .i64 t259) := (blk_cell BK262.out 3).trans rfl; have hcz152_4 : w151.cell? ⟨gb262, 4, none⟩ = some (.int .i64 t260) := (blk_cell BK262.out 4).trans rfl; have hfz152_0 := blk_frozen BK262.out 0; have hfz152_1 := blk_frozen BK262.out 1; have hfz152_2 := blk_frozen BK262.out 2; have hfz152_3 := blk_frozen BK262.out 3; have hfz152_4 := blk_frozen BK262.out 4; have hnb153 := NB246_236.out; have hnc153 := NB236_246.out; have hnb154 := NB246_253.out; have hnc154 := NB253_246.out; have hnb155 := NB246_269.out; have hnc155 := NB269_246.out; have hcz156_0 : w151.cell? ⟨gb246, 0, none⟩ = some (.int .u32 x247000_2) := (blk_cell BK246.out 0).trans rfl; have hcz156_1 : w151.cell? ⟨gb246, 1, none⟩ = some (.int .u32 x247001_2) := (blk_cell BK246.out 1).trans rfl; have hcz156_2 : w151.cell? ⟨gb246, 2, none⟩ = some (.int .i64 x247002_2) := (blk_cell BK246.out 2).trans rfl; have hcz156_3 : w151.cell? ⟨gb246, 3, none⟩ = some (.int .i64 x247003_2) := (blk_cell BK246.out 3).trans rfl; have hcz156_4 : w151.cell? ⟨gb246, 4, none⟩ = some (.int .i64 x247004_2) := (blk_cell BK246.out 4).trans rfl; have hfz156_0 := blk_frozen BK246.out 0; have hfz156_1 := blk_frozen BK246.out 1; have hfz156_2 := blk_frozen BK246.out 2; have hfz156_3 := blk_frozen BK246.out 3; have hfz156_4 := blk_frozen BK246.out 4; have hnb157 := NB269_236.out; have hnc157 := NB236_269.out; have hnb158 := NB269_253.out; have hnc158 := NB253_269.out; have hcz159_0 : w151.cell? ⟨gb269, 0, none⟩ = some (.int .u32 t263) := (blk_cell BK269.out 0).trans rfl; have hcz159_1 : w151.cell? ⟨gb269, 1, none⟩ = some (.int .u32 t264) := (blk_cell BK269.out 1).trans rfl; have hcz159_2 : w151.cell? ⟨gb269, 2, none⟩ = some (.int .i64 t265) := (blk_cell BK269.out 2).trans rfl; have hcz159_3 : w151.cell? ⟨gb269, 3, none⟩ = some (.int .i64 t266) := (blk_cell BK269.out 3).trans rfl; have hcz159_4 : w151.cell? ⟨gb269, 4, none⟩ = some (.int .i64 t267) := (blk_cell BK269.out 4).trans rfl; have hfz159_0 := blk_frozen BK269.out 0; have hfz159_1 := blk_frozen BK269.out 1; have hfz159_2 := blk_frozen BK269.out 2; have hfz159_3 := blk_frozen BK269.out 3; have hfz159_4 := blk_frozen BK269.out 4; have hnb160 := NB253_236.out; have hnc160 := NB236_253.out; have hcz161_0 : w151.cell? ⟨gb253, 0, none⟩ = some (.int .u32 x254000_2) := (blk_cell BK253.out 0).trans rfl; have hcz161_1 : w151.cell? ⟨gb253, 1, none⟩ = some (.int .u32 x254001_2) := (blk_cell BK253.out 1).trans rfl; have hcz161_2 : w151.cell? ⟨gb253, 2, none⟩ = some (.int .i64 x254002_2) := (blk_cell BK253.out 2).trans rfl; have hcz161_3 : w151.cell? ⟨gb253, 3, none⟩ = some (.int .i64 x254003_2) := (blk_cell BK253.out 3).trans rfl; have hcz161_4 : w151.cell? ⟨gb253, 4, none⟩ = some (.int .i64 x254004_2) := (blk_cell BK253.out 4).trans rfl; have hfz161_0 := blk_frozen BK253.out 0; have hfz161_1 := blk_frozen BK253.out 1; have hfz161_2 := blk_frozen BK253.out 2; have hfz161_3 := blk_frozen BK253.out 3; have hfz161_4 := blk_frozen BK253.out 4))
                        go_roundg kj57
                        case measure => have := HJ2.out; have := HK2.out; have := HJ57.out; omega
                        case rel => exact ⟨(wrap64 (x12_2 + 1)), (t280), (t281), (t282), (t283), (t284), (t263), (t264), (t265), (t266), (t267), (by first | rfl | (simp; done) | (simp [*]; done)), H', ⟨by have := HJ2.out; have := HK2.out; have := HJ57.out; omega⟩, ⟨by (with_reducible repeat (first | refine blk_drewN ?_ _ | refine blk_drew ?_ | refine blk_alloc ?_ _)); refine blk_far ?_ NB236_253.out _; (with_reducible repeat (first | refine blk_drewN ?_ _ | refine blk_drew ?_ | refine blk_alloc ?_ _)); refine blk_far ?_ NB236_253.out _; (with_reducible repeat (first | refine blk_drewN ?_ _ | refine blk_drew ?_ | refine blk_alloc ?_ _)); refine blk_far ?_ NB236_253.out _; (with_reducible repeat (first | refine blk_drewN ?_ _ | refine blk_drew ?_ | refine blk_alloc ?_ _)); refine blk_far ?_ NB236_253.out _; (with_reducible repeat (first | refine blk_drewN ?_ _ | refine blk_drew ?_ | refine blk_alloc ?_ _)); refine blk_far ?_ NB236_253.out _; (with_reducible repeat (first | refine blk_drewN ?_ _ | refine blk_drew ?_ | refine blk_alloc ?_ _)); refine blk_far ?_ NB236_246.out _; (with_reducible repeat (first | refine blk_drewN ?_ _ | refine blk_drew ?_ | refine blk_alloc ?_ _)); refine blk_far ?_ NB236_246.out _; (with_reducible repeat (first | refine blk_drewN ?_ _ | refine blk_drew ?_ | refine blk_alloc ?_ _)); refine blk_far ?_ NB236_246.out _; (with_reducible repeat (first | refine blk_drewN ?_ _ | refine blk_drew ?_ | refine blk_alloc ?_ _)); refine blk_far ?_ NB236_246.out _; (with_reducible repeat (first | refine blk_drewN ?_ _ | refine blk_drew ?_ | refine blk_alloc ?_ _)); refine blk_far ?_ NB236_246.out _; (with_reducible repeat (first | refine blk_drewN ?_ _ | refine blk_drew ?_ | refine blk_alloc ?_ _)); refine blk_far ?_ NB236_262.out _; (with_reducible repeat (first | refine blk_drewN ?_ _ | refine blk_drew ?_ | refine blk_alloc ?_ _)); refine blk_far ?_ NB236_262.out _; (with_reducible repeat (first | refine blk_drewN ?_ _ | refine blk_drew ?_ | refine blk_alloc ?_ _)); refine blk_far ?_ NB236_262.out _; (with_reducible repeat (first | refine blk_drewN ?_ _ | refine blk_drew ?_ | refine blk_alloc ?_ _)); refine blk_far ?_ NB236_262.out _; (with_reducible repeat (first | refine blk_drewN ?_ _ | refine blk_drew ?_ | refine blk_alloc ?_ _)); refine blk_far ?_ NB236_262.out _; (with_reducible repeat (first | refine blk_drewN ?_ _ | refine blk_drew ?_ | refine blk_alloc ?_ _)); exact BK236.out⟩, ⟨by (with_reducible repeat (first | refine blk_drewN ?_ _ | refine blk_drew ?_ | refine blk_alloc ?_ _)); refine blk_far ?_ NB237_253.out _; (with_reducible repeat (first | refine blk_drewN ?_ _ | refine blk_drew ?_ | refine blk_alloc ?_ _)); refine blk_far ?_ NB237_253.out _; (with_reducible repeat (first | refine blk_drewN ?_ _ | refine blk_drew ?_ | refine blk_alloc ?_ _)); refine blk_far ?_ NB237_253.out _; (with_reducible repeat (first | refine blk_drewN ?_ _ | refine blk_drew ?_ | refine blk_alloc ?_ _)); refine blk_far ?_ NB237_253.out _; (with_reducible repeat (first | refine blk_drewN ?_ _ | refine blk_drew ?_ | refine blk_alloc ?_ _)); refine blk_far ?_ NB237_253.out _; (with_reducible repeat (first | refine blk_drewN ?_ _ | refine blk_drew ?_ | refine blk_alloc ?_ _)); refine blk_far ?_ NB237_246.out _; (with_reducible repeat (first | refine blk_drewN ?_ _ | refine blk_drew ?_ | refine blk_alloc ?_ _)); refine blk_far ?_ NB237_246.out _; (with_reducible repeat (first | refine blk_drewN ?_ _ | refine blk_drew ?_ | refine blk_alloc ?_ _)); refine blk_far ?_ NB237_246.out _; (with_reducible repeat (first | refine blk_drewN ?_ _ | refine blk_drew ?_ | refine blk_alloc ?_ _)); refine blk_far ?_ NB237_246.out _; (with_reducible repeat (first | refine blk_drewN ?_ _ | refine blk_drew ?_ | refine blk_alloc ?_ _)); refine blk_far ?_ NB237_246.out _; (with_reducible repeat (first | refine blk_drewN ?_ _ | refine blk_drew ?_ | refine blk_alloc ?_ _)); refine blk_far ?_ NB237_262.out _; (with_reducible repeat (first | refine blk_drewN ?_ _ | refine blk_drew ?_ | refine blk_alloc ?_ _)); refine blk_far ?_ NB237_262.out _; (with_reducible repeat (first | refine blk_drewN ?_ _ | refine blk_drew ?_ | refine blk_alloc ?_ _)); refine blk_far ?_ NB237_262.out _; (with_reducible repeat (first | refine blk_drewN ?_ _ | refine blk_drew ?_ | refine blk_alloc ?_ _)); refine blk_far ?_ NB237_262.out _; (with_reducible repeat (first | refine blk_drewN ?_ _ | refine blk_drew ?_ | refine blk_alloc ?_ _)); refine blk_far ?_ NB237_262.out _; (with_reducible repeat (first | refine blk_drewN ?_ _ | refine blk_drew ?_ | refine blk_alloc ?_ _)); exact BK237.out⟩, ⟨by (with_reducible repeat (first | refine blk_drewN ?_ _ | refine blk_drew ?_ | refine blk_alloc ?_ _)); refine blk_far ?_ NB246_253.out _; (with_reducible repeat (first | refine blk_drewN ?_ _ | refine blk_drew ?_ | refine blk_alloc ?_ _)); refine blk_far ?_ NB246_253.out _; (with_reducible repeat (first | refine blk_drewN ?_ _ | refine blk_drew ?_ | refine blk_alloc ?_ _)); refine blk_far ?_ NB246_253.out _; (with_reducible repeat (first | refine blk_drewN ?_ _ | refine blk_drew ?_ | refine blk_alloc ?_ _)); refine blk_far ?_ NB246_253.out _; (with_reducible repeat (first | refine blk_drewN ?_ _ | refine blk_drew ?_ | refine blk_alloc ?_ _)); refine blk_far ?_ NB246_253.out _; (with_reducible repeat (first | refine blk_drewN ?_ _ | refine blk_drew ?_ | refine blk_alloc ?_ _)); refine blk_put (cs := #[.int .u32 t280, .int .u32 t281, .int .i64 t282, .int .i64 t283, .int .i64 x247004_2]) ?_ 4 _ rfl; (with_reducible repeat (first | refine blk_drewN ?_ _ | refine blk_drew ?_ | refine blk_alloc ?_ _)); refine blk_put (cs := #[.int .u32 t280, .int .u32 t281, .int .i64 t282, .int .i64 x247003_2, .int .i64 x247004_2]) ?_ 3 _ rfl; (with_reducible repeat (first | refine blk_drewN ?_ _ | refine blk_drew ?_ | refine blk_alloc ?_ _)); refine blk_put (cs := #[.int .u32 t280, .int .u32 t281, .int .i64 x247002_2, .int .i64 x247003_2, .int .i64 x247004_2]) ?_ 2 _ rfl; (with_reducible repeat (first | refine blk_drewN ?_ _ | refine blk_drew ?_ | refine blk_alloc ?_ _)); refine blk_put (cs := #[.int .u32 t280, .int .u32 x247001_2, .int .i64 x247002_2, .int .i64 x247003_2, .int .i64 x247004_2]) ?_ 1 _ rfl; (with_reducible repeat (first | refine blk_drewN ?_ _ | refine blk_drew ?_ | refine blk_alloc ?_ _)); refine blk_put (cs := #[.int .u32 x247000_2, .int .u32 x247001_2, .int .i64 x247002_2, .int .i64 x247003_2, .int .i64 x247004_2]) ?_ 0 _ rfl; (with_reducible repeat (first | refine blk_drewN ?_ _ | refine blk_drew ?_ | refine blk_alloc ?_ _)); refine blk_far ?_ NB246_262.out _; (with_reducible repeat (first | refine blk_drewN ?_ _ | refine blk_drew ?_ | refine blk_alloc ?_ _)); refine blk_far ?_ NB246_262.out _; (with_reducible repeat (first | refine blk_drewN ?_ _ | refine blk_drew ?_ | refine blk_alloc ?_ _)); refine blk_far ?_ NB246_262.out _; (with_reducible repeat (first | refine blk_drewN ?_ _ | refine blk_drew ?_ | refine blk_alloc ?_ _)); refine blk_far ?_ NB246_262.out _; (with_reducible repeat (first | refine blk_drewN ?_ _ | refine blk_drew ?_ | refine blk_alloc ?_ _)); refine blk_far ?_ NB246_262.out _; (with_reducible repeat (first | refine blk_drewN ?_ _ | refine blk_drew ?_ | refine blk_alloc ?_ _)); exact BK246.out⟩, ⟨by (with_reducible repeat (first | refine blk_drewN ?_ _ | refine blk_drew ?_ | refine blk_alloc ?_ _)); refine blk_put (cs := #[.int .u32 t263, .int .u32 t264, .int .i64 t265, .int .i64 t266, .int .i64 x254004_2]) ?_ 4 _ rfl; (with_reducible repeat (first | refine blk_drewN ?_ _ | refine blk_drew ?_ | refine blk_alloc ?_ _)); refine blk_put (cs := #[.int .u32 t263, .int .u32 t264, .int .i64 t265, .int .i64 x254003_2, .int .i64 x254004_2]) ?_ 3 _ rfl; (with_reducible repeat (first | refine blk_drewN ?_ _ | refine blk_drew ?_ | refine blk_alloc ?_ _)); refine blk_put (cs := #[.int .u32 t263, .int .u32 t264, .int .i64 x254002_2, .int .i64 x254003_2, .int .i64 x254004_2]) ?_ 2 _ rfl; (with_reducible repeat (first | refine blk_drewN ?_ _ | refine blk_drew ?_ | refine blk_alloc ?_ _)); refine blk_put (cs := #[.int .u32 t263, .int .u32 x254001_2, .int .i64 x254002_2, .int .i64 x254003_2, .int .i64 x254004_2]) ?_ 1 _ rfl; (with_reducible repeat (first | refine blk_drewN ?_ _ | refine blk_drew ?_ | refine blk_alloc ?_ _)); refine blk_put (cs := #[.int .u32 x254000_2, .int .u32 x254001_2, .int .i64 x254002_2, .int .i64 x254003_2, .int .i64 x254004_2]) ?_ 0 _ rfl; (with_reducible repeat (first | refine blk_drewN ?_ _ | refine blk_drew ?_ | refine blk_alloc ?_ _)); refine blk_far ?_ NB253_246.out _; (with_reducible repeat (first | refine blk_drewN ?_ _ | refine blk_drew ?_ | refine blk_alloc ?_ _)); refine blk_far ?_ NB253_246.out _; (with_reducible repeat (first | refine blk_drewN ?_ _ | refine blk_drew ?_ | refine blk_alloc ?_ _)); refine blk_far ?_ NB253_246.out _; (with_reducible repeat (first | refine blk_drewN ?_ _ | refine blk_drew ?_ | refine blk_alloc ?_ _)); refine blk_far ?_ NB253_246.out _; (with_reducible repeat (first | refine blk_drewN ?_ _ | refine blk_drew ?_ | refine blk_alloc ?_ _)); refine blk_far ?_ NB253_246.out _; (with_reducible repeat (first | refine blk_drewN ?_ _ | refine blk_drew ?_ | refine blk_alloc ?_ _)); refine blk_far ?_ NB253_262.out _; (with_reducible repeat (first | refine blk_drewN ?_ _ | refine blk_drew ?_ | refine blk_alloc ?_ _)); refine blk_far ?_ NB253_262.out _; (with_reducible repeat (first | refine blk_drewN ?_ _ | refine blk_drew ?_ | refine blk_alloc ?_ _)); refine blk_far ?_ NB253_262.out _; (with_reducible repeat (first | refine blk_drewN ?_ _ | refine blk_drew ?_ | refine blk_alloc ?_ _)); refine blk_far ?_ NB253_262.out _; (with_reducible repeat (first | refine blk_drewN ?_ _ | refine blk_drew ?_ | refine blk_alloc ?_ _)); refine blk_far ?_ NB253_262.out _; (with_reducible repeat (first | refine blk_drewN ?_ _ | refine blk_drew ?_ | refine blk_alloc ?_ _)); exact BK253.out⟩, ⟨by repeat (first | (with_reducible first | exact HB.out | apply below_alloc | apply pw_below_drewN | apply below_drew1 | refine below_set ?_ GE236.out | refine below_set ?_ GE237.out | refine below_set ?_ GE246.out | refine below_set ?_ GE253.out | refine below_set ?_ GE262.out | refine below_set ?_ GE269.out) | exact HB.out)⟩⟩
                      · replace c138 := Bool.eq_false_iff.mpr c138
                        subst c138
                        have H1 : (stolonlaw10_QuerierOne.l0 kj57 a0_4 a0_5 a0_6 t238 (wrap64 (x12_2 + 1)) a0_0 a0_1 a0_2 a0_3 t256 t257 t258 t259 t260 t263 t264 t265 t266 t267) = some r := by rw [if_neg (show ¬ (false = true) by decide)] at H; exact H
                        clear H
                        have H := H1
                        clear H1
                        have H' := Aside0.mk H
                        clear H
                        have hnb162 := NB262_236.out
                        have hnc162 := NB236_262.out
                        have hnb163 := NB262_237.out
                        have hnc163 := NB237_262.out
                        have hnb164 := NB262_246.out
                        have hnc164 := NB246_262.out
                        have hnb165 := NB262_253.out
                        have hnc165 := NB253_262.out
                        have hnb166 := NB262_269.out
                        have hnc166 := NB269_262.out
                        have hcz167_0 : wc.cell? ⟨gb262, 0, none⟩ = some (.int .u32 t256) := (blk_cell BK262.out 0).trans rfl
                        have hcz167_1 : wc.cell? ⟨gb262, 1, none⟩ = some (.int .u32 t257) := (blk_cell BK262.out 1).trans rfl
                        have hcz167_2 : wc.cell? ⟨gb262, 2, none⟩ = some (.int .i64 t258) := (blk_cell BK262.out 2).trans rfl
                        have hcz167_3 : wc.cell? ⟨gb262, 3, none⟩ = some (.int .i64 t259) := (blk_cell BK262.out 3).trans rfl
                        have hcz167_4 : wc.cell? ⟨gb262, 4, none⟩ = some (.int .i64 t260) := (blk_cell BK262.out 4).trans rfl
                        have hfz167_0 := blk_frozen BK262.out 0
                        have hfz167_1 := blk_frozen BK262.out 1
                        have hfz167_2 := blk_frozen BK262.out 2
                        have hfz167_3 := blk_frozen BK262.out 3
                        have hfz167_4 := blk_frozen BK262.out 4
                        have hnb168 := NB246_236.out
                        have hnc168 := NB236_246.out
                        have hnb169 := NB246_237.out
                        have hnc169 := NB237_246.out
                        have hnb170 := NB246_253.out
                        have hnc170 := NB253_246.out
                        have hnb171 := NB246_269.out
                        have hnc171 := NB269_246.out
                        have hcz172_0 : wc.cell? ⟨gb246, 0, none⟩ = some (.int .u32 x247000_2) := (blk_cell BK246.out 0).trans rfl
                        have hcz172_1 : wc.cell? ⟨gb246, 1, none⟩ = some (.int .u32 x247001_2) := (blk_cell BK246.out 1).trans rfl
                        have hcz172_2 : wc.cell? ⟨gb246, 2, none⟩ = some (.int .i64 x247002_2) := (blk_cell BK246.out 2).trans rfl
                        have hcz172_3 : wc.cell? ⟨gb246, 3, none⟩ = some (.int .i64 x247003_2) := (blk_cell BK246.out 3).trans rfl
                        have hcz172_4 : wc.cell? ⟨gb246, 4, none⟩ = some (.int .i64 x247004_2) := (blk_cell BK246.out 4).trans rfl
                        have hfz172_0 := blk_frozen BK246.out 0
                        have hfz172_1 := blk_frozen BK246.out 1
                        have hfz172_2 := blk_frozen BK246.out 2
                        have hfz172_3 := blk_frozen BK246.out 3
                        have hfz172_4 := blk_frozen BK246.out 4
                        have hnb173 := NB269_236.out
                        have hnc173 := NB236_269.out
                        have hnb174 := NB269_237.out
                        have hnc174 := NB237_269.out
                        have hnb175 := NB269_253.out
                        have hnc175 := NB253_269.out
                        have hcz176_0 : wc.cell? ⟨gb269, 0, none⟩ = some (.int .u32 t263) := (blk_cell BK269.out 0).trans rfl
                        have hcz176_1 : wc.cell? ⟨gb269, 1, none⟩ = some (.int .u32 t264) := (blk_cell BK269.out 1).trans rfl
                        have hcz176_2 : wc.cell? ⟨gb269, 2, none⟩ = some (.int .i64 t265) := (blk_cell BK269.out 2).trans rfl
                        have hcz176_3 : wc.cell? ⟨gb269, 3, none⟩ = some (.int .i64 t266) := (blk_cell BK269.out 3).trans rfl
                        have hcz176_4 : wc.cell? ⟨gb269, 4, none⟩ = some (.int .i64 t267) := (blk_cell BK269.out 4).trans rfl
                        have hfz176_0 := blk_frozen BK269.out 0
                        have hfz176_1 := blk_frozen BK269.out 1
                        have hfz176_2 := blk_frozen BK269.out 2
                        have hfz176_3 := blk_frozen BK269.out 3
                        have hfz176_4 := blk_frozen BK269.out 4
                        have hnb177 := NB253_236.out
                        have hnc177 := NB236_253.out
                        have hnb178 := NB253_237.out
                        have hnc178 := NB237_253.out
                        have hcz179_0 : wc.cell? ⟨gb253, 0, none⟩ = some (.int .u32 x254000_2) := (blk_cell BK253.out 0).trans rfl
                        have hcz179_1 : wc.cell? ⟨gb253, 1, none⟩ = some (.int .u32 x254001_2) := (blk_cell BK253.out 1).trans rfl
                        have hcz179_2 : wc.cell? ⟨gb253, 2, none⟩ = some (.int .i64 x254002_2) := (blk_cell BK253.out 2).trans rfl
                        have hcz179_3 : wc.cell? ⟨gb253, 3, none⟩ = some (.int .i64 x254003_2) := (blk_cell BK253.out 3).trans rfl
                        have hcz179_4 : wc.cell? ⟨gb253, 4, none⟩ = some (.int .i64 x254004_2) := (blk_cell BK253.out 4).trans rfl
                        have hfz179_0 := blk_frozen BK253.out 0
                        have hfz179_1 := blk_frozen BK253.out 1
                        have hfz179_2 := blk_frozen BK253.out 2
                        have hfz179_3 := blk_frozen BK253.out 3
                        have hfz179_4 := blk_frozen BK253.out 4
                        go_wp2
                        go_roundg kj57
                        case measure => have := HJ2.out; have := HK2.out; have := HJ57.out; omega
                        case rel => exact ⟨(wrap64 (x12_2 + 1)), (t256), (t257), (t258), (t259), (t260), (t263), (t264), (t265), (t266), (t267), (by first | rfl | (simp; done) | (simp [*]; done)), H', ⟨by have := HJ2.out; have := HK2.out; have := HJ57.out; omega⟩, ⟨by (with_reducible repeat (first | refine blk_drewN ?_ _ | refine blk_drew ?_ | refine blk_alloc ?_ _)); refine blk_far ?_ NB236_253.out _; (with_reducible repeat (first | refine blk_drewN ?_ _ | refine blk_drew ?_ | refine blk_alloc ?_ _)); refine blk_far ?_ NB236_253.out _; (with_reducible repeat (first | refine blk_drewN ?_ _ | refine blk_drew ?_ | refine blk_alloc ?_ _)); refine blk_far ?_ NB236_253.out _; (with_reducible repeat (first | refine blk_drewN ?_ _ | refine blk_drew ?_ | refine blk_alloc ?_ _)); refine blk_far ?_ NB236_253.out _; (with_reducible repeat (first | refine blk_drewN ?_ _ | refine blk_drew ?_ | refine blk_alloc ?_ _)); refine blk_far ?_ NB236_253.out _; (with_reducible repeat (first | refine blk_drewN ?_ _ | refine blk_drew ?_ | refine blk_alloc ?_ _)); refine blk_far ?_ NB236_246.out _; (with_reducible repeat (first | refine blk_drewN ?_ _ | refine blk_drew ?_ | refine blk_alloc ?_ _)); refine blk_far ?_ NB236_246.out _; (with_reducible repeat (first | refine blk_drewN ?_ _ | refine blk_drew ?_ | refine blk_alloc ?_ _)); refine blk_far ?_ NB236_246.out _; (with_reducible repeat (first | refine blk_drewN ?_ _ | refine blk_drew ?_ | refine blk_alloc ?_ _)); refine blk_far ?_ NB236_246.out _; (with_reducible repeat (first | refine blk_drewN ?_ _ | refine blk_drew ?_ | refine blk_alloc ?_ _)); refine blk_far ?_ NB236_246.out _; (with_reducible repeat (first | refine blk_drewN ?_ _ | refine blk_drew ?_ | refine blk_alloc ?_ _)); exact BK236.out⟩, ⟨by (with_reducible repeat (first | refine blk_drewN ?_ _ | refine blk_drew ?_ | refine blk_alloc ?_ _)); refine blk_far ?_ NB237_253.out _; (with_reducible repeat (first | refine blk_drewN ?_ _ | refine blk_drew ?_ | refine blk_alloc ?_ _)); refine blk_far ?_ NB237_253.out _; (with_reducible repeat (first | refine blk_drewN ?_ _ | refine blk_drew ?_ | refine blk_alloc ?_ _)); refine blk_far ?_ NB237_253.out _; (with_reducible repeat (first | refine blk_drewN ?_ _ | refine blk_drew ?_ | refine blk_alloc ?_ _)); refine blk_far ?_ NB237_253.out _; (with_reducible repeat (first | refine blk_drewN ?_ _ | refine blk_drew ?_ | refine blk_alloc ?_ _)); refine blk_far ?_ NB237_253.out _; (with_reducible repeat (first | refine blk_drewN ?_ _ | refine blk_drew ?_ | refine blk_alloc ?_ _)); refine blk_far ?_ NB237_246.out _; (with_reducible repeat (first | refine blk_drewN ?_ _ | refine blk_drew ?_ | refine blk_alloc ?_ _)); refine blk_far ?_ NB237_246.out _; (with_reducible repeat (first | refine blk_drewN ?_ _ | refine blk_drew ?_ | refine blk_alloc ?_ _)); refine blk_far ?_ NB237_246.out _; (with_reducible repeat (first | refine blk_drewN ?_ _ | refine blk_drew ?_ | refine blk_alloc ?_ _)); refine blk_far ?_ NB237_246.out _; (with_reducible repeat (first | refine blk_drewN ?_ _ | refine blk_drew ?_ | refine blk_alloc ?_ _)); refine blk_far ?_ NB237_246.out _; (with_reducible repeat (first | refine blk_drewN ?_ _ | refine blk_drew ?_ | refine blk_alloc ?_ _)); exact BK237.out⟩, ⟨by (with_reducible repeat (first | refine blk_drewN ?_ _ | refine blk_drew ?_ | refine blk_alloc ?_ _)); refine blk_far ?_ NB246_253.out _; (with_reducible repeat (first | refine blk_drewN ?_ _ | refine blk_drew ?_ | refine blk_alloc ?_ _)); refine blk_far ?_ NB246_253.out _; (with_reducible repeat (first | refine blk_drewN ?_ _ | refine blk_drew ?_ | refine blk_alloc ?_ _)); refine blk_far ?_ NB246_253.out _; (with_reducible repeat (first | refine blk_drewN ?_ _ | refine blk_drew ?_ | refine blk_alloc ?_ _)); refine blk_far ?_ NB246_253.out _; (with_reducible repeat (first | refine blk_drewN ?_ _ | refine blk_drew ?_ | refine blk_alloc ?_ _)); refine blk_far ?_ NB246_253.out _; (with_reducible repeat (first | refine blk_drewN ?_ _ | refine blk_drew ?_ | refine blk_alloc ?_ _)); refine blk_put (cs := #[.int .u32 t256, .int .u32 t257, .int .i64 t258, .int .i64 t259, .int .i64 x247004_2]) ?_ 4 _ rfl; (with_reducible repeat (first | refine blk_drewN ?_ _ | refine blk_drew ?_ | refine blk_alloc ?_ _)); refine blk_put (cs := #[.int .u32 t256, .int .u32 t257, .int .i64 t258, .int .i64 x247003_2, .int .i64 x247004_2]) ?_ 3 _ rfl; (with_reducible repeat (first | refine blk_drewN ?_ _ | refine blk_drew ?_ | refine blk_alloc ?_ _)); refine blk_put (cs := #[.int .u32 t256, .int .u32 t257, .int .i64 x247002_2, .int .i64 x247003_2, .int .i64 x247004_2]) ?_ 2 _ rfl; (with_reducible repeat (first | refine blk_drewN ?_ _ | refine blk_drew ?_ | refine blk_alloc ?_ _)); refine blk_put (cs := #[.int .u32 t256, .int .u32 x247001_2, .int .i64 x247002_2, .int .i64 x247003_2, .int .i64 x247004_2]) ?_ 1 _ rfl; (with_reducible repeat (first | refine blk_drewN ?_ _ | refine blk_drew ?_ | refine blk_alloc ?_ _)); refine blk_put (cs := #[.int .u32 x247000_2, .int .u32 x247001_2, .int .i64 x247002_2, .int .i64 x247003_2, .int .i64 x247004_2]) ?_ 0 _ rfl; (with_reducible repeat (first | refine blk_drewN ?_ _ | refine blk_drew ?_ | refine blk_alloc ?_ _)); exact BK246.out⟩, ⟨by (with_reducible repeat (first | refine blk_drewN ?_ _ | refine blk_drew ?_ | refine blk_alloc ?_ _)); refine blk_put (cs := #[.int .u32 t263, .int .u32 t264, .int .i64 t265, .int .i64 t266, .int .i64 x254004_2]) ?_ 4 _ rfl; (with_reducible repeat (first | refine blk_drewN ?_ _ | refine blk_drew ?_ | refine blk_alloc ?_ _)); refine blk_put (cs := #[.int .u32 t263, .int .u32 t264, .int .i64 t265, .int .i64 x254003_2, .int .i64 x254004_2]) ?_ 3 _ rfl; (with_reducible repeat (first | refine blk_drewN ?_ _ | refine blk_drew ?_ | refine blk_alloc ?_ _)); refine blk_put (cs := #[.int .u32 t263, .int .u32 t264, .int .i64 x254002_2, .int .i64 x254003_2, .int .i64 x254004_2]) ?_ 2 _ rfl; (with_reducible repeat (first | refine blk_drewN ?_ _ | refine blk_drew ?_ | refine blk_alloc ?_ _)); refine blk_put (cs := #[.int .u32 t263, .int .u32 x254001_2, .int .i64 x254002_2, .int .i64 x254003_2, .int .i64 x254004_2]) ?_ 1 _ rfl; (with_reducible repeat (first | refine blk_drewN ?_ _ | refine blk_drew ?_ | refine blk_alloc ?_ _)); refine blk_put (cs := #[.int .u32 x254000_2, .int .u32 x254001_2, .int .i64 x254002_2, .int .i64 x254003_2, .int .i64 x254004_2]) ?_ 0 _ rfl; (with_reducible repeat (first | refine blk_drewN ?_ _ | refine blk_drew ?_ | refine blk_alloc ?_ _)); refine blk_far ?_ NB253_246.out _; (with_reducible repeat (first | refine blk_drewN ?_ _ | refine blk_drew ?_ | refine blk_alloc ?_ _)); refine blk_far ?_ NB253_246.out _; (with_reducible repeat (first | refine blk_drewN ?_ _ | refine blk_drew ?_ | refine blk_alloc ?_ _)); refine blk_far ?_ NB253_246.out _; (with_reducible repeat (first | refine blk_drewN ?_ _ | refine blk_drew ?_ | refine blk_alloc ?_ _)); refine blk_far ?_ NB253_246.out _; (with_reducible repeat (first | refine blk_drewN ?_ _ | refine blk_drew ?_ | refine blk_alloc ?_ _)); refine blk_far ?_ NB253_246.out _; (with_reducible repeat (first | refine blk_drewN ?_ _ | refine blk_drew ?_ | refine blk_alloc ?_ _)); exact BK253.out⟩, ⟨by repeat (first | (with_reducible first | exact HB.out | apply below_alloc | apply pw_below_drewN | apply below_drew1 | refine below_set ?_ GE236.out | refine below_set ?_ GE237.out | refine below_set ?_ GE246.out | refine below_set ?_ GE253.out | refine below_set ?_ GE262.out | refine below_set ?_ GE269.out) | exact HB.out)⟩⟩
            · rw [if_neg c55] at H
              have c55b0 : decide (x12_2 ≤ (wrap64 (a0_6))) = false := decide_eq_false c55
              clear c55
              by_cases c180 : t238 = true
              · subst c180
                have H1 : ((querier_Asks.f x247000_2 x247001_2 x247002_2 x247003_2 x247004_2).bind fun t254 => (if t254 = true then ((querier_Asks.f x254000_2 x254001_2 x254002_2 x254003_2 x254004_2).bind fun t255 => (some (!t255))) else (some false))) = some r := by rw [if_pos rfl] at H; exact H
                clear H
                have H := H1
                clear H1
                replace H := Option.bind_eq_some_iff.mp H
                obtain ⟨t254, A1810, H⟩ := H
                replace H : (if t254 = true then ((querier_Asks.f x254000_2 x254001_2 x254002_2 x254003_2 x254004_2).bind fun t255 => (some (!t255))) else (some false)) = some r := H
                have A181 := Aside0.mk A1810
                clear A1810
                by_cases c182 : t254 = true
                · subst c182
                  have H1 : ((querier_Asks.f x254000_2 x254001_2 x254002_2 x254003_2 x254004_2).bind fun t255 => (some (!t255))) = some r := by rw [if_pos rfl] at H; exact H
                  clear H
                  have H := H1
                  clear H1
                  replace H := Option.bind_eq_some_iff.mp H
                  obtain ⟨t255, A1830, H⟩ := H
                  replace H : (some (!t255)) = some r := H
                  have A183 := Aside0.mk A1830
                  clear A1830
                  obtain rfl := Option.some.inj H
                  have hnb184 := NB246_236.out
                  have hnc184 := NB236_246.out
                  have hnb185 := NB246_237.out
                  have hnc185 := NB237_246.out
                  have hnb186 := NB246_253.out
                  have hnc186 := NB253_246.out
                  have hcz187_0 : wr.cell? ⟨gb246, 0, none⟩ = some (.int .u32 x247000_2) := (blk_cell BK246.out 0).trans rfl
                  have hcz187_1 : wr.cell? ⟨gb246, 1, none⟩ = some (.int .u32 x247001_2) := (blk_cell BK246.out 1).trans rfl
                  have hcz187_2 : wr.cell? ⟨gb246, 2, none⟩ = some (.int .i64 x247002_2) := (blk_cell BK246.out 2).trans rfl
                  have hcz187_3 : wr.cell? ⟨gb246, 3, none⟩ = some (.int .i64 x247003_2) := (blk_cell BK246.out 3).trans rfl
                  have hcz187_4 : wr.cell? ⟨gb246, 4, none⟩ = some (.int .i64 x247004_2) := (blk_cell BK246.out 4).trans rfl
                  have hfz187_0 := blk_frozen BK246.out 0
                  have hfz187_1 := blk_frozen BK246.out 1
                  have hfz187_2 := blk_frozen BK246.out 2
                  have hfz187_3 := blk_frozen BK246.out 3
                  have hfz187_4 := blk_frozen BK246.out 4
                  go_wp2_with (first | (go_at_call 16; (with_reducible refine (querier_Asks.calls x247000_2 x247001_2 x247002_2 x247003_2 x247004_2 true _ A181.out).mono ?_); rintro e w188 ⟨rfl, hb⟩; have n0_ := Aside0.mk (blk_below (g := gb236) (o := .cells #[.int .i64 a0_0, .int .i64 a0_1, .int .i64 a0_2, .int .i64 a0_3, .int .u32 a0_4, .int .u32 a0_5, .int .u8 a0_6] 42 (0, 0)) (by (with_reducible repeat (first | refine blk_drewN ?_ _ | refine blk_drew ?_ | refine blk_alloc ?_ _)); exact BK236.out) hb); have n1_ := Aside0.mk (blk_below (g := gb237) (o := .cells #[.int .i64 a0_0, .int .i64 a0_1, .int .i64 a0_2, .int .i64 a0_3] 23 (0, 0)) (by (with_reducible repeat (first | refine blk_drewN ?_ _ | refine blk_drew ?_ | refine blk_alloc ?_ _)); exact BK237.out) hb); have n2_ := Aside0.mk (blk_below (g := gb246) (o := .cells #[.int .u32 x247000_2, .int .u32 x247001_2, .int .i64 x247002_2, .int .i64 x247003_2, .int .i64 x247004_2] 27 (0, 0)) (by (with_reducible repeat (first | refine blk_drewN ?_ _ | refine blk_drew ?_ | refine blk_alloc ?_ _)); exact BK246.out) hb); have n3_ := Aside0.mk (blk_below (g := gb253) (o := .cells #[.int .u32 x254000_2, .int .u32 x254001_2, .int .i64 x254002_2, .int .i64 x254003_2, .int .i64 x254004_2] 27 (0, 0)) (by (with_reducible repeat (first | refine blk_drewN ?_ _ | refine blk_drew ?_ | refine blk_alloc ?_ _)); exact BK253.out) hb); have n4_ := Aside0.mk (below_step (by repeat (first | (with_reducible first | exact HB.out | apply below_alloc | apply pw_below_drewN | apply below_drew1 | refine below_set ?_ GE236.out | refine below_set ?_ GE237.out | refine below_set ?_ GE246.out | refine below_set ?_ GE253.out) | exact HB.out)) hb); clear BK236; clear BK237; clear BK246; clear BK253; clear HB; have BK236 := n0_; have BK237 := n1_; have BK246 := n2_; have BK253 := n3_; have HB := n4_; clear n0_ n1_ n2_ n3_ n4_; (try clear hb); (try clear hb2); (try clear hk); (try clear hi); have hnb189 := NB253_236.out; have hnc189 := NB236_253.out; have hnb190 := NB253_237.out; have hnc190 := NB237_253.out; have hcz191_0 : w188.cell? ⟨gb253, 0, none⟩ = some (.int .u32 x254000_2) := (blk_cell BK253.out 0).trans rfl; have hcz191_1 : w188.cell? ⟨gb253, 1, none⟩ = some (.int .u32 x254001_2) := (blk_cell BK253.out 1).trans rfl; have hcz191_2 : w188.cell? ⟨gb253, 2, none⟩ = some (.int .i64 x254002_2) := (blk_cell BK253.out 2).trans rfl; have hcz191_3 : w188.cell? ⟨gb253, 3, none⟩ = some (.int .i64 x254003_2) := (blk_cell BK253.out 3).trans rfl; have hcz191_4 : w188.cell? ⟨gb253, 4, none⟩ = some (.int .i64 x254004_2) := (blk_cell BK253.out 4).trans rfl; have hfz191_0 := blk_frozen BK253.out 0; have hfz191_1 := blk_frozen BK253.out 1; have hfz191_2 := blk_frozen BK253.out 2; have hfz191_3 := blk_frozen BK253.out 3; have hfz191_4 := blk_frozen BK253.out 4) | (go_at_call 16; (with_reducible refine (querier_Asks.calls x254000_2 x254001_2 x254002_2 x254003_2 x254004_2 t255 _ A183.out).mono ?_); rintro e w192 ⟨rfl, hb⟩; have n0_ := Aside0.mk (blk_below (g := gb236) (o := .cells #[.int .i64 a0_0, .int .i64 a0_1, .int .i64 a0_2, .int .i64 a0_3, .int .u32 a0_4, .int .u32 a0_5, .int .u8 a0_6] 42 (0, 0)) (by (with_reducible repeat (first | refine blk_drewN ?_ _ | refine blk_drew ?_ | refine blk_alloc ?_ _)); exact BK236.out) hb); have n1_ := Aside0.mk (blk_below (g := gb237) (o := .cells #[.int .i64 a0_0, .int .i64 a0_1, .int .i64 a0_2, .int .i64 a0_3] 23 (0, 0)) (by (with_reducible repeat (first | refine blk_drewN ?_ _ | refine blk_drew ?_ | refine blk_alloc ?_ _)); exact BK237.out) hb); have n2_ := Aside0.mk (blk_below (g := gb246) (o := .cells #[.int .u32 x247000_2, .int .u32 x247001_2, .int .i64 x247002_2, .int .i64 x247003_2, .int .i64 x247004_2] 27 (0, 0)) (by (with_reducible repeat (first | refine blk_drewN ?_ _ | refine blk_drew ?_ | refine blk_alloc ?_ _)); exact BK246.out) hb); have n3_ := Aside0.mk (blk_below (g := gb253) (o := .cells #[.int .u32 x254000_2, .int .u32 x254001_2, .int .i64 x254002_2, .int .i64 x254003_2, .int .i64 x254004_2] 27 (0, 0)) (by (with_reducible repeat (first | refine blk_drewN ?_ _ | refine blk_drew ?_ | refine blk_alloc ?_ _)); exact BK253.out) hb); have n4_ := Aside0.mk (below_step (by repeat (first | (with_reducible first | exact HB.out | apply below_alloc | apply pw_below_drewN | apply below_drew1 | refine below_set ?_ GE236.out | refine below_set ?_ GE237.out | refine below_set ?_ GE246.out | refine below_set ?_ GE253.out) | exact HB.out)) hb); clear BK236; clear BK237; clear BK246; clear BK253; clear HB; have BK236 := n0_; have BK237 := n1_; have BK246 := n2_; have BK253 := n3_; have HB := n4_; clear n0_ n1_ n2_ n3_ n4_; (try clear hb); (try clear hb2); (try clear hk); (try clear hi)))
                  go_ret
                  exact ⟨by first | rfl | (simp [errW_none, errW_some] <;> rfl) | (simp [*, errW_none, errW_some] <;> rfl), by repeat (first | (with_reducible first | exact HB.out | apply below_alloc | apply pw_below_drewN | apply below_drew1 | refine below_set ?_ GE236.out | refine below_set ?_ GE237.out | refine below_set ?_ GE246.out | refine below_set ?_ GE253.out) | exact HB.out)⟩
                · replace c182 := Bool.eq_false_iff.mpr c182
                  subst c182
                  have H1 : (some false) = some r := by rw [if_neg (show ¬ (false = true) by decide)] at H; exact H
                  clear H
                  have H := H1
                  clear H1
                  exact absurd ((Option.some.inj H).trans hTrue.out) (by simp)
              · replace c180 := Bool.eq_false_iff.mpr c180
                subst c180
                have H1 : (some false) = some r := by rw [if_neg (show ¬ (false = true) by decide)] at H; exact H
                clear H
                have H := H1
                clear H1
                exact absurd ((Option.some.inj H).trans hTrue.out) (by simp)

end Go.Proofs.Ytlihbdinghoeeaa.P
