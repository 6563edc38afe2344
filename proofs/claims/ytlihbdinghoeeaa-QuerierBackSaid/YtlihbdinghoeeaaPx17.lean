/- For each Go function a Lean function, and the proof that a call comes to what it tells: made by program out of the translation (the kit's print, with texts by hand put in). No condition. -/
import Derived.Test.YtlihbdinghoeeaaPx0
import Derived.Test.YtlihbdinghoeeaaPx1
import Derived.Test.YtlihbdinghoeeaaPx5
import Derived.Test.YtlihbdinghoeeaaPx7
import Derived.Test.YtlihbdinghoeeaaPx8
import Derived.Test.YtlihbdinghoeeaaPx9
import Derived.Test.YtlihbdinghoeeaaPx11
namespace Go.Proofs.Ytlihbdinghoeeaa.P
open Go.RowKit Go.Proofs.YtlihbdinghoeeaaW.PrintWords Go.Proofs.YtlihbdinghoeeaaW.PrintLast Go.Proofs.YtlihbdinghoeeaaW.PrintMore
attribute [local go_sem] max2_int min2_int max_two min_two max_three min_three max_four min_four   -- for this text's walks alone
set_option linter.unusedVariables false
set_option linter.unusedSimpArgs false

attribute [local go_sem high] eqA27
/-! ### stolonlaw10_QuerierBack: function 7 -/
mutual
def stolonlaw10_QuerierBack.j0 : Nat → Int → Bool → Bool → Int → Int → Int → Int → Int → Int → Int → Int → Int → Option (Bool)
  | 0, _, _, _, _, _, _, _, _, _, _, _, _ => none
  | k + 1, x2, x7, x49, x286000, x286001, x286002, x286003, x287000, x287001, x287002, x287003, x287004 => if x49 = true then (some x7) else ((querier_Hear.f x286000 x286001 x286002 x286003 x287000 x287001 x287002 x287003 x287004 x2).bind fun bt290 => (stolonlaw10_QuerierBack.l0 k x2 x7 0 x286000 x286001 x286002 x286003 bt290.1 bt290.2.1 bt290.2.2.1 bt290.2.2.2.1 bt290.2.2.2.2))
def stolonlaw10_QuerierBack.l0 : Nat → Int → Bool → Int → Int → Int → Int → Int → Int → Int → Int → Int → Int → Option (Bool)
  | 0, _, _, _, _, _, _, _, _, _, _, _, _ => none
  | k + 1, x2, x7, x8, x286000, x286001, x286002, x286003, x287000, x287001, x287002, x287003, x287004 => if x8 < x286003 then ((querier_Asks.f x287000 x287001 x287002 x287003 x287004).bind fun t310 => (if t310 = true then (stolonlaw10_QuerierBack.j2 k x2 x7 x8 true x286000 x286001 x286002 x286003 x287000 x287001 x287002 x287003 x287004) else (stolonlaw10_QuerierBack.j2 k x2 x7 x8 (x287001 != x2) x286000 x286001 x286002 x286003 x287000 x287001 x287002 x287003 x287004))) else ((querier_Tick.f x286000 x286001 x286002 x286003 x287000 x287001 x287002 x287003 x287004).bind fun bt295 => ((querier_New.f x286000 x286001 x286002 x286003 x287000).bind fun bt302 => (if x7 = true then (if bt295.2.2.2.2.2 = true then (if bt302.2.2.2.2.2 = 0 then (if (x287000 == bt302.1 && (x287001 == bt302.2.1 && (x287002 == bt302.2.2.1 && (x287003 == bt302.2.2.2.1 && (x287004 == bt302.2.2.2.2.1))))) = true then ((querier_Asks.f bt295.1 bt295.2.1 bt295.2.2.1 bt295.2.2.2.1 bt295.2.2.2.2.1).bind fun t309 => (some t309)) else (some false)) else (some false)) else (some false)) else (some false))))
def stolonlaw10_QuerierBack.j2 : Nat → Int → Bool → Int → Bool → Int → Int → Int → Int → Int → Int → Int → Int → Int → Option (Bool)
  | 0, _, _, _, _, _, _, _, _, _, _, _, _, _ => none
  | k + 1, x2, x7, x8, x68, x286000, x286001, x286002, x286003, x287000, x287001, x287002, x287003, x287004 => if x68 = true then (some false) else ((querier_Tick.f x286000 x286001 x286002 x286003 x287000 x287001 x287002 x287003 x287004).bind fun bt311 => (if bt311.2.2.2.2.2 = true then (some false) else (stolonlaw10_QuerierBack.l0 k x2 x7 (wrap64 (x8 + 1)) x286000 x286001 x286002 x286003 bt311.1 bt311.2.1 bt311.2.2.1 bt311.2.2.2.1 bt311.2.2.2.2.1)))
end
def stolonlaw10_QuerierBack.f (k : Nat) (a0_0 : Int) (a0_1 : Int) (a0_2 : Int) (a0_3 : Int) (a1_0 : Int) (a1_1 : Int) (a1_2 : Int) (a1_3 : Int) (a1_4 : Int) (a2 : Int) : Option (Bool) := (stolonlaw10_shown.f).bind fun t287 => ((stolonref10_May.f a0_0 a0_1 a0_2 a0_3).bind fun t288 => (if t288 = true then ((stolonref10_Right.f k a1_0 a1_1 a1_2 a1_3 a1_4).bind fun t289 => (if t289 = true then (if a2 = 0 then (stolonlaw10_QuerierBack.j0 k a2 t287 true a0_0 a0_1 a0_2 a0_3 a1_0 a1_1 a1_2 a1_3 a1_4) else (if a2 ≥ a1_0 then (stolonlaw10_QuerierBack.j0 k a2 t287 true a0_0 a0_1 a0_2 a0_3 a1_0 a1_1 a1_2 a1_3 a1_4) else (if a0_3 > 100 then (stolonlaw10_QuerierBack.j0 k a2 t287 true a0_0 a0_1 a0_2 a0_3 a1_0 a1_1 a1_2 a1_3 a1_4) else (if a1_1 = 0 then (stolonlaw10_QuerierBack.j0 k a2 t287 false a0_0 a0_1 a0_2 a0_3 a1_0 a1_1 a1_2 a1_3 a1_4) else (stolonlaw10_QuerierBack.j0 k a2 t287 (decide (a1_1 < a2)) a0_0 a0_1 a0_2 a0_3 a1_0 a1_1 a1_2 a1_3 a1_4))))) else (stolonlaw10_QuerierBack.j0 k a2 t287 true a0_0 a0_1 a0_2 a0_3 a1_0 a1_1 a1_2 a1_3 a1_4))) else (stolonlaw10_QuerierBack.j0 k a2 t287 true a0_0 a0_1 a0_2 a0_3 a1_0 a1_1 a1_2 a1_3 a1_4)))
theorem stolonlaw10_QuerierBack.mono_l : ∀ k, (∀ y0 y1 y2 y3 y4 y5 y6 y7 y8 y9 y10 y11, LeO (stolonlaw10_QuerierBack.j0 k y0 y1 y2 y3 y4 y5 y6 y7 y8 y9 y10 y11) (stolonlaw10_QuerierBack.j0 (k + 1) y0 y1 y2 y3 y4 y5 y6 y7 y8 y9 y10 y11)) ∧ (∀ y0 y1 y2 y3 y4 y5 y6 y7 y8 y9 y10 y11, LeO (stolonlaw10_QuerierBack.l0 k y0 y1 y2 y3 y4 y5 y6 y7 y8 y9 y10 y11) (stolonlaw10_QuerierBack.l0 (k + 1) y0 y1 y2 y3 y4 y5 y6 y7 y8 y9 y10 y11)) ∧ (∀ y0 y1 y2 y3 y4 y5 y6 y7 y8 y9 y10 y11 y12, LeO (stolonlaw10_QuerierBack.j2 k y0 y1 y2 y3 y4 y5 y6 y7 y8 y9 y10 y11 y12) (stolonlaw10_QuerierBack.j2 (k + 1) y0 y1 y2 y3 y4 y5 y6 y7 y8 y9 y10 y11 y12))
  | 0 => ⟨fun _ _ _ _ _ _ _ _ _ _ _ _ r h => by simp [stolonlaw10_QuerierBack.j0] at h, fun _ _ _ _ _ _ _ _ _ _ _ _ r h => by simp [stolonlaw10_QuerierBack.l0] at h, fun _ _ _ _ _ _ _ _ _ _ _ _ _ r h => by simp [stolonlaw10_QuerierBack.j2] at h⟩
  | k + 1 => by
    obtain ⟨ih0, ih1, ih2⟩ := stolonlaw10_QuerierBack.mono_l k
    refine ⟨?_, ?_, ?_⟩
    · intro y0 y1 y2 y3 y4 y5 y6 y7 y8 y9 y10 y11
      unfold stolonlaw10_QuerierBack.j0
      repeat' first
      | (with_reducible exact ih0 _ _ _ _ _ _ _ _ _ _ _ _)
      | (with_reducible exact ih1 _ _ _ _ _ _ _ _ _ _ _ _)
      | (with_reducible exact ih2 _ _ _ _ _ _ _ _ _ _ _ _ _)
      | (with_reducible exact stolonref10_Right.mono _ _ _ _ _ _)
      | (with_reducible exact LeO.refl _)
      | (with_reducible exact LeO.none _)
      | (with_reducible refine LeO.ite ?_ ?_)
      | (with_reducible refine LeO.bind ?_ (fun _ => ?_))
      | exact ih0 _ _ _ _ _ _ _ _ _ _ _ _
      | exact ih1 _ _ _ _ _ _ _ _ _ _ _ _
      | exact ih2 _ _ _ _ _ _ _ _ _ _ _ _ _
      | exact stolonref10_Right.mono _ _ _ _ _ _
      | exact LeO.none _
      | refine LeO.ite ?_ ?_
      | refine LeO.bind ?_ (fun _ => ?_)
    · intro y0 y1 y2 y3 y4 y5 y6 y7 y8 y9 y10 y11
      unfold stolonlaw10_QuerierBack.l0
      repeat' first
      | (with_reducible exact ih0 _ _ _ _ _ _ _ _ _ _ _ _)
      | (with_reducible exact ih1 _ _ _ _ _ _ _ _ _ _ _ _)
      | (with_reducible exact ih2 _ _ _ _ _ _ _ _ _ _ _ _ _)
      | (with_reducible exact stolonref10_Right.mono _ _ _ _ _ _)
      | (with_reducible exact LeO.refl _)
      | (with_reducible exact LeO.none _)
      | (with_reducible refine LeO.ite ?_ ?_)
      | (with_reducible refine LeO.bind ?_ (fun _ => ?_))
      | exact ih0 _ _ _ _ _ _ _ _ _ _ _ _
      | exact ih1 _ _ _ _ _ _ _ _ _ _ _ _
      | exact ih2 _ _ _ _ _ _ _ _ _ _ _ _ _
      | exact stolonref10_Right.mono _ _ _ _ _ _
      | exact LeO.none _
      | refine LeO.ite ?_ ?_
      | refine LeO.bind ?_ (fun _ => ?_)
    · intro y0 y1 y2 y3 y4 y5 y6 y7 y8 y9 y10 y11 y12
      unfold stolonlaw10_QuerierBack.j2
      repeat' first
      | (with_reducible exact ih0 _ _ _ _ _ _ _ _ _ _ _ _)
      | (with_reducible exact ih1 _ _ _ _ _ _ _ _ _ _ _ _)
      | (with_reducible exact ih2 _ _ _ _ _ _ _ _ _ _ _ _ _)
      | (with_reducible exact stolonref10_Right.mono _ _ _ _ _ _)
      | (with_reducible exact LeO.refl _)
      | (with_reducible exact LeO.none _)
      | (with_reducible refine LeO.ite ?_ ?_)
      | (with_reducible refine LeO.bind ?_ (fun _ => ?_))
      | exact ih0 _ _ _ _ _ _ _ _ _ _ _ _
      | exact ih1 _ _ _ _ _ _ _ _ _ _ _ _
      | exact ih2 _ _ _ _ _ _ _ _ _ _ _ _ _
      | exact stolonref10_Right.mono _ _ _ _ _ _
      | exact LeO.none _
      | refine LeO.ite ?_ ?_
      | refine LeO.bind ?_ (fun _ => ?_)
theorem stolonlaw10_QuerierBack.mono : ∀ a0 a1 a2 a3 a4 a5 a6 a7 a8 a9 k, LeO (stolonlaw10_QuerierBack.f k a0 a1 a2 a3 a4 a5 a6 a7 a8 a9) (stolonlaw10_QuerierBack.f (k + 1) a0 a1 a2 a3 a4 a5 a6 a7 a8 a9) := by
  intro a0 a1 a2 a3 a4 a5 a6 a7 a8 a9 k
  obtain ⟨ih0, ih1, ih2⟩ := stolonlaw10_QuerierBack.mono_l k
  unfold stolonlaw10_QuerierBack.f
  repeat' first
      | (with_reducible exact ih0 _ _ _ _ _ _ _ _ _ _ _ _)
      | (with_reducible exact ih1 _ _ _ _ _ _ _ _ _ _ _ _)
      | (with_reducible exact ih2 _ _ _ _ _ _ _ _ _ _ _ _ _)
      | (with_reducible exact stolonref10_Right.mono _ _ _ _ _ _)
      | (with_reducible exact LeO.refl _)
      | (with_reducible exact LeO.none _)
      | (with_reducible refine LeO.ite ?_ ?_)
      | (with_reducible refine LeO.bind ?_ (fun _ => ?_))
      | exact ih0 _ _ _ _ _ _ _ _ _ _ _ _
      | exact ih1 _ _ _ _ _ _ _ _ _ _ _ _
      | exact ih2 _ _ _ _ _ _ _ _ _ _ _ _ _
      | exact stolonref10_Right.mono _ _ _ _ _ _
      | exact LeO.none _
      | refine LeO.ite ?_ ?_
      | refine LeO.bind ?_ (fun _ => ?_)
set_option maxHeartbeats 8000000 in
set_option maxRecDepth 100000 in
theorem stolonlaw10_QuerierBack.calls (k : Nat) (a0_0 : Int) (a0_1 : Int) (a0_2 : Int) (a0_3 : Int) (a1_0 : Int) (a1_1 : Int) (a1_2 : Int) (a1_3 : Int) (a1_4 : Int) (a2 : Int) (r : Bool) (w : World) (hTrue : Aside0 (r = true)) (h : stolonlaw10_QuerierBack.f k a0_0 a0_1 a0_2 a0_3 a1_0 a1_1 a1_2 a1_3 a1_4 a2 = some r) :
    Calls Try.prog 7 #[.agg #[.int .i64 a0_0, .int .i64 a0_1, .int .i64 a0_2, .int .i64 a0_3], .agg #[.int .u32 a1_0, .int .u32 a1_1, .int .i64 a1_2, .int .i64 a1_3, .int .i64 a1_4], .int .u32 a2] w fun e w' => e = .returned (.bool r) ∧ Below w.heap.size w w' := by
  have hu23 := Try.underlying23
  have hu27 := Try.underlying27
  have HB := Aside0.mk (Below.refl w.heap.size w)
  have H : ((stolonlaw10_shown.f).bind fun t287 => ((stolonref10_May.f a0_0 a0_1 a0_2 a0_3).bind fun t288 => (if t288 = true then ((stolonref10_Right.f k a1_0 a1_1 a1_2 a1_3 a1_4).bind fun t289 => (if t289 = true then (if a2 = 0 then (stolonlaw10_QuerierBack.j0 k a2 t287 true a0_0 a0_1 a0_2 a0_3 a1_0 a1_1 a1_2 a1_3 a1_4) else (if a2 ≥ a1_0 then (stolonlaw10_QuerierBack.j0 k a2 t287 true a0_0 a0_1 a0_2 a0_3 a1_0 a1_1 a1_2 a1_3 a1_4) else (if a0_3 > 100 then (stolonlaw10_QuerierBack.j0 k a2 t287 true a0_0 a0_1 a0_2 a0_3 a1_0 a1_1 a1_2 a1_3 a1_4) else (if a1_1 = 0 then (stolonlaw10_QuerierBack.j0 k a2 t287 false a0_0 a0_1 a0_2 a0_3 a1_0 a1_1 a1_2 a1_3 a1_4) else (stolonlaw10_QuerierBack.j0 k a2 t287 (decide (a1_1 < a2)) a0_0 a0_1 a0_2 a0_3 a1_0 a1_1 a1_2 a1_3 a1_4))))) else (stolonlaw10_QuerierBack.j0 k a2 t287 true a0_0 a0_1 a0_2 a0_3 a1_0 a1_1 a1_2 a1_3 a1_4))) else (stolonlaw10_QuerierBack.j0 k a2 t287 true a0_0 a0_1 a0_2 a0_3 a1_0 a1_1 a1_2 a1_3 a1_4)))) = some r := h
  clear h
  replace H := Option.bind_eq_some_iff.mp H
  obtain ⟨t287, A40, H⟩ := H
  replace H : ((stolonref10_May.f a0_0 a0_1 a0_2 a0_3).bind fun t288 => (if t288 = true then ((stolonref10_Right.f k a1_0 a1_1 a1_2 a1_3 a1_4).bind fun t289 => (if t289 = true then (if a2 = 0 then (stolonlaw10_QuerierBack.j0 k a2 t287 true a0_0 a0_1 a0_2 a0_3 a1_0 a1_1 a1_2 a1_3 a1_4) else (if a2 ≥ a1_0 then (stolonlaw10_QuerierBack.j0 k a2 t287 true a0_0 a0_1 a0_2 a0_3 a1_0 a1_1 a1_2 a1_3 a1_4) else (if a0_3 > 100 then (stolonlaw10_QuerierBack.j0 k a2 t287 true a0_0 a0_1 a0_2 a0_3 a1_0 a1_1 a1_2 a1_3 a1_4) else (if a1_1 = 0 then (stolonlaw10_QuerierBack.j0 k a2 t287 false a0_0 a0_1 a0_2 a0_3 a1_0 a1_1 a1_2 a1_3 a1_4) else (stolonlaw10_QuerierBack.j0 k a2 t287 (decide (a1_1 < a2)) a0_0 a0_1 a0_2 a0_3 a1_0 a1_1 a1_2 a1_3 a1_4))))) else (stolonlaw10_QuerierBack.j0 k a2 t287 true a0_0 a0_1 a0_2 a0_3 a1_0 a1_1 a1_2 a1_3 a1_4))) else (stolonlaw10_QuerierBack.j0 k a2 t287 true a0_0 a0_1 a0_2 a0_3 a1_0 a1_1 a1_2 a1_3 a1_4))) = some r := H
  have A4 := Aside0.mk A40
  clear A40
  have HC5 := Aside0.mk H
  clear H
  go_enter Try.func7, Try.ntmps7
  go_upto_region 2 with (first | ((with_reducible refine gate_dst (N := 3) rfl ?_); refine box_event ?hg (N := 3) ?hd (cs := #[.int .i64 a0_0, .int .i64 a0_1, .int .i64 a0_2, .int .i64 a0_3]) (t := 23) ?hr ?_; (case hd => rfl); (case hg => rfl); (case hr => first | (go_simp; done) | (go_simp; rfl)); intro gb285 hg w6 hbox hb; have n0_ := Aside0.mk (below_step (by repeat (first | (with_reducible first | exact HB.out | apply below_alloc | apply pw_below_drewN | apply below_drew1) | exact HB.out)) hb); have n1_ := Aside0.mk (hbox); have n2_ := Aside0.mk ((by rw [hg]; exact (below_size (by repeat (first | (with_reducible first | exact HB.out | apply below_alloc | apply pw_below_drewN | apply below_drew1) | exact HB.out))) : w.heap.size ≤ gb285)); have n3_ := Aside0.mk ((by rw [hg]; exact (below_size (by repeat (first | (with_reducible first | exact HB.out | apply below_alloc | apply pw_below_drewN | apply below_drew1) | exact HB.out))) : w.heap.size ≤ gb285)); clear HB; have HB := n0_; have BK285 := n1_; have GW285 := n2_; have GE285 := n3_; clear n0_ n1_ n2_ n3_; clear hb hbox hg) | ((with_reducible refine gate_dst (N := 4) rfl ?_); refine box_event ?hg (N := 4) ?hd (cs := #[.int .u32 a1_0, .int .u32 a1_1, .int .i64 a1_2, .int .i64 a1_3, .int .i64 a1_4]) (t := 27) ?hr ?_; (case hd => rfl); (case hg => rfl); (case hr => first | (go_simp; done) | (go_simp; rfl)); intro gb286 hg w7 hbox hb; have n0_ := Aside0.mk (blk_below (g := gb285) (o := .cells #[.int .i64 a0_0, .int .i64 a0_1, .int .i64 a0_2, .int .i64 a0_3] 23 (0, 0)) (by (with_reducible repeat (first | refine blk_drewN ?_ _ | refine blk_drew ?_ | refine blk_alloc ?_ _)); exact BK285.out) hb); have n1_ := Aside0.mk (below_step (by repeat (first | (with_reducible first | exact HB.out | apply below_alloc | apply pw_below_drewN | apply below_drew1 | refine below_set ?_ GE285.out) | exact HB.out)) hb); have n2_ := Aside0.mk (hbox); have n3_ := Aside0.mk ((by rw [hg]; exact (below_size (by repeat (first | (with_reducible first | exact HB.out | apply below_alloc | apply pw_below_drewN | apply below_drew1 | refine below_set ?_ GE285.out) | exact HB.out))) : w.heap.size ≤ gb286)); have n4_ := Aside0.mk ((by rw [hg]; exact (below_size (by repeat (first | (with_reducible first | exact HB.out | apply below_alloc | apply pw_below_drewN | apply below_drew1 | refine below_set ?_ GE285.out) | exact HB.out))) : w.heap.size ≤ gb286)); have n5_ := Aside0.mk ((by rw [hg]; exact Nat.ne_of_lt (blk_lt (g := gb285) (o := .cells #[.int .i64 a0_0, .int .i64 a0_1, .int .i64 a0_2, .int .i64 a0_3] 23 (0, 0)) (by (with_reducible repeat (first | refine blk_drewN ?_ _ | refine blk_drew ?_ | refine blk_alloc ?_ _)); exact BK285.out)) : gb285 ≠ gb286)); have n6_ := Aside0.mk ((by rw [hg]; exact Nat.ne_of_gt (blk_lt (g := gb285) (o := .cells #[.int .i64 a0_0, .int .i64 a0_1, .int .i64 a0_2, .int .i64 a0_3] 23 (0, 0)) (by (with_reducible repeat (first | refine blk_drewN ?_ _ | refine blk_drew ?_ | refine blk_alloc ?_ _)); exact BK285.out)) : gb286 ≠ gb285)); clear BK285; clear HB; have BK285 := n0_; have HB := n1_; have BK286 := n2_; have GW286 := n3_; have GE286 := n4_; have NB285_286 := n5_; have NB286_285 := n6_; clear n0_ n1_ n2_ n3_ n4_ n5_ n6_; clear hb hbox hg) | ((with_reducible refine gate_callee (f := 9) rfl ?_); refine goesL_ (some 15) rfl rfl Try.func9 (by kernel_rfl) rfl #[] rfl (by (try simp only [List.map_toArray, List.map_cons, List.map_nil]); first | done | rfl | (simp only [List.length_drop, List.length_take]; rfl)) ?_; (with_reducible refine (stolonlaw10_shown.calls  t287 _ A4.out).mono ?_); rintro e w8 ⟨rfl, hb⟩; refine ⟨_, rfl, ?_⟩; have n0_ := Aside0.mk (blk_below (g := gb285) (o := .cells #[.int .i64 a0_0, .int .i64 a0_1, .int .i64 a0_2, .int .i64 a0_3] 23 (0, 0)) (by (with_reducible repeat (first | refine blk_drewN ?_ _ | refine blk_drew ?_ | refine blk_alloc ?_ _)); exact BK285.out) hb); have n1_ := Aside0.mk (blk_below (g := gb286) (o := .cells #[.int .u32 a1_0, .int .u32 a1_1, .int .i64 a1_2, .int .i64 a1_3, .int .i64 a1_4] 27 (0, 0)) (by (with_reducible repeat (first | refine blk_drewN ?_ _ | refine blk_drew ?_ | refine blk_alloc ?_ _)); exact BK286.out) hb); have n2_ := Aside0.mk (below_step (by repeat (first | (with_reducible first | exact HB.out | apply below_alloc | apply pw_below_drewN | apply below_drew1 | refine below_set ?_ GE285.out | refine below_set ?_ GE286.out) | exact HB.out)) hb); clear BK285; clear BK286; clear HB; have BK285 := n0_; have BK286 := n1_; have HB := n2_; clear n0_ n1_ n2_; (try clear hb); (try clear hb2); (try clear hk); (try clear hi)))
  (try simp only [Act.put, List.setIfInBounds_toArray, List.set_cons_zero, List.set_cons_succ])
  go_cut [49] (fun v49 wc => ∃ (kq : Nat) (x49_4 : Bool), v49 = .bool x49_4 ∧ Aside0 (stolonlaw10_QuerierBack.j0 kq a2 t287 x49_4 a0_0 a0_1 a0_2 a0_3 a1_0 a1_1 a1_2 a1_3 a1_4 = some r) ∧ Aside0 (kq ≤ k) ∧ Aside0 (wc.heap[gb285]? = some (.cells #[.int .i64 a0_0, .int .i64 a0_1, .int .i64 a0_2, .int .i64 a0_3] 23 (0, 0))) ∧ Aside0 (wc.heap[gb286]? = some (.cells #[.int .u32 a1_0, .int .u32 a1_1, .int .i64 a1_2, .int .i64 a1_3, .int .i64 a1_4] 27 (0, 0))) ∧ Aside0 (Below w.heap.size w wc))
  case first =>
    have H := HC5.out
    clear HC5
    replace H := Option.bind_eq_some_iff.mp H
    obtain ⟨t288, A90, H⟩ := H
    replace H : (if t288 = true then ((stolonref10_Right.f k a1_0 a1_1 a1_2 a1_3 a1_4).bind fun t289 => (if t289 = true then (if a2 = 0 then (stolonlaw10_QuerierBack.j0 k a2 t287 true a0_0 a0_1 a0_2 a0_3 a1_0 a1_1 a1_2 a1_3 a1_4) else (if a2 ≥ a1_0 then (stolonlaw10_QuerierBack.j0 k a2 t287 true a0_0 a0_1 a0_2 a0_3 a1_0 a1_1 a1_2 a1_3 a1_4) else (if a0_3 > 100 then (stolonlaw10_QuerierBack.j0 k a2 t287 true a0_0 a0_1 a0_2 a0_3 a1_0 a1_1 a1_2 a1_3 a1_4) else (if a1_1 = 0 then (stolonlaw10_QuerierBack.j0 k a2 t287 false a0_0 a0_1 a0_2 a0_3 a1_0 a1_1 a1_2 a1_3 a1_4) else (stolonlaw10_QuerierBack.j0 k a2 t287 (decide (a1_1 < a2)) a0_0 a0_1 a0_2 a0_3 a1_0 a1_1 a1_2 a1_3 a1_4))))) else (stolonlaw10_QuerierBack.j0 k a2 t287 true a0_0 a0_1 a0_2 a0_3 a1_0 a1_1 a1_2 a1_3 a1_4))) else (stolonlaw10_QuerierBack.j0 k a2 t287 true a0_0 a0_1 a0_2 a0_3 a1_0 a1_1 a1_2 a1_3 a1_4)) = some r := H
    have A9 := Aside0.mk A90
    clear A90
    by_cases c10 : t288 = true
    · subst c10
      have H1 : ((stolonref10_Right.f k a1_0 a1_1 a1_2 a1_3 a1_4).bind fun t289 => (if t289 = true then (if a2 = 0 then (stolonlaw10_QuerierBack.j0 k a2 t287 true a0_0 a0_1 a0_2 a0_3 a1_0 a1_1 a1_2 a1_3 a1_4) else (if a2 ≥ a1_0 then (stolonlaw10_QuerierBack.j0 k a2 t287 true a0_0 a0_1 a0_2 a0_3 a1_0 a1_1 a1_2 a1_3 a1_4) else (if a0_3 > 100 then (stolonlaw10_QuerierBack.j0 k a2 t287 true a0_0 a0_1 a0_2 a0_3 a1_0 a1_1 a1_2 a1_3 a1_4) else (if a1_1 = 0 then (stolonlaw10_QuerierBack.j0 k a2 t287 false a0_0 a0_1 a0_2 a0_3 a1_0 a1_1 a1_2 a1_3 a1_4) else (stolonlaw10_QuerierBack.j0 k a2 t287 (decide (a1_1 < a2)) a0_0 a0_1 a0_2 a0_3 a1_0 a1_1 a1_2 a1_3 a1_4))))) else (stolonlaw10_QuerierBack.j0 k a2 t287 true a0_0 a0_1 a0_2 a0_3 a1_0 a1_1 a1_2 a1_3 a1_4))) = some r := by rw [if_pos rfl] at H; exact H
      clear H
      have H := H1
      clear H1
      replace H := Option.bind_eq_some_iff.mp H
      obtain ⟨t289, A110, H⟩ := H
      replace H : (if t289 = true then (if a2 = 0 then (stolonlaw10_QuerierBack.j0 k a2 t287 true a0_0 a0_1 a0_2 a0_3 a1_0 a1_1 a1_2 a1_3 a1_4) else (if a2 ≥ a1_0 then (stolonlaw10_QuerierBack.j0 k a2 t287 true a0_0 a0_1 a0_2 a0_3 a1_0 a1_1 a1_2 a1_3 a1_4) else (if a0_3 > 100 then (stolonlaw10_QuerierBack.j0 k a2 t287 true a0_0 a0_1 a0_2 a0_3 a1_0 a1_1 a1_2 a1_3 a1_4) else (if a1_1 = 0 then (stolonlaw10_QuerierBack.j0 k a2 t287 false a0_0 a0_1 a0_2 a0_3 a1_0 a1_1 a1_2 a1_3 a1_4) else (stolonlaw10_QuerierBack.j0 k a2 t287 (decide (a1_1 < a2)) a0_0 a0_1 a0_2 a0_3 a1_0 a1_1 a1_2 a1_3 a1_4))))) else (stolonlaw10_QuerierBack.j0 k a2 t287 true a0_0 a0_1 a0_2 a0_3 a1_0 a1_1 a1_2 a1_3 a1_4)) = some r := H
      have A11 := Aside0.mk A110
      clear A110
      by_cases c12 : t289 = true
      · subst c12
        have H1 : (if a2 = 0 then (stolonlaw10_QuerierBack.j0 k a2 t287 true a0_0 a0_1 a0_2 a0_3 a1_0 a1_1 a1_2 a1_3 a1_4) else (if a2 ≥ a1_0 then (stolonlaw10_QuerierBack.j0 k a2 t287 true a0_0 a0_1 a0_2 a0_3 a1_0 a1_1 a1_2 a1_3 a1_4) else (if a0_3 > 100 then (stolonlaw10_QuerierBack.j0 k a2 t287 true a0_0 a0_1 a0_2 a0_3 a1_0 a1_1 a1_2 a1_3 a1_4) else (if a1_1 = 0 then (stolonlaw10_QuerierBack.j0 k a2 t287 false a0_0 a0_1 a0_2 a0_3 a1_0 a1_1 a1_2 a1_3 a1_4) else (stolonlaw10_QuerierBack.j0 k a2 t287 (decide (a1_1 < a2)) a0_0 a0_1 a0_2 a0_3 a1_0 a1_1 a1_2 a1_3 a1_4))))) = some r := by rw [if_pos rfl] at H; exact H
        clear H
        have H := H1
        clear H1
        by_cases c13 : a2 = 0
        · rw [if_pos c13] at H
          have c13b0 : (a2 == 0) = true := beq_iff_eq.mpr c13
          have c13b1 : (a2 != 0) = false := bne_eq_false_iff_eq.mpr c13
          clear c13
          (first | rw [c13b0] | (simp only [i64_w, i32_w]; rw [c13b0]) | skip)
          have H' := Aside0.mk H
          clear H
          have hnb14 := NB285_286.out
          have hnc14 := NB286_285.out
          have hcz15_0 : w8.cell? ⟨gb285, 0, none⟩ = some (.int .i64 a0_0) := (blk_cell BK285.out 0).trans rfl
          have hcz15_1 : w8.cell? ⟨gb285, 1, none⟩ = some (.int .i64 a0_1) := (blk_cell BK285.out 1).trans rfl
          have hcz15_2 : w8.cell? ⟨gb285, 2, none⟩ = some (.int .i64 a0_2) := (blk_cell BK285.out 2).trans rfl
          have hcz15_3 : w8.cell? ⟨gb285, 3, none⟩ = some (.int .i64 a0_3) := (blk_cell BK285.out 3).trans rfl
          have hfz15_0 := blk_frozen BK285.out 0
          have hfz15_1 := blk_frozen BK285.out 1
          have hfz15_2 := blk_frozen BK285.out 2
          have hfz15_3 := blk_frozen BK285.out 3
          go_wp2_with (first | ((with_reducible refine gate_callee (f := 13) rfl ?_); refine goesL_ (some 17) rfl rfl Try.func13 (by kernel_rfl) rfl #[.agg #[.int .i64 a0_0, .int .i64 a0_1, .int .i64 a0_2, .int .i64 a0_3]] rfl (by (try simp only [List.map_toArray, List.map_cons, List.map_nil]); first | done | rfl | (simp only [List.length_drop, List.length_take]; rfl)) ?_; (with_reducible refine (stolonref10_May.calls a0_0 a0_1 a0_2 a0_3 true _ A9.out).mono ?_); rintro e w16 ⟨rfl, hb⟩; refine ⟨_, rfl, ?_⟩; have n0_ := Aside0.mk (blk_below (g := gb285) (o := .cells #[.int .i64 a0_0, .int .i64 a0_1, .int .i64 a0_2, .int .i64 a0_3] 23 (0, 0)) (by (with_reducible repeat (first | refine blk_drewN ?_ _ | refine blk_drew ?_ | refine blk_alloc ?_ _)); exact BK285.out) hb); have n1_ := Aside0.mk (blk_below (g := gb286) (o := .cells #[.int .u32 a1_0, .int .u32 a1_1, .int .i64 a1_2, .int .i64 a1_3, .int .i64 a1_4] 27 (0, 0)) (by (with_reducible repeat (first | refine blk_drewN ?_ _ | refine blk_drew ?_ | refine blk_alloc ?_ _)); exact BK286.out) hb); have n2_ := Aside0.mk (below_step (by repeat (first | (with_reducible first | exact HB.out | apply below_alloc | apply pw_below_drewN | apply below_drew1 | refine below_set ?_ GE285.out | refine below_set ?_ GE286.out) | exact HB.out)) hb); clear BK285; clear BK286; clear HB; have BK285 := n0_; have BK286 := n1_; have HB := n2_; clear n0_ n1_ n2_; (try clear hb); (try clear hb2); (try clear hk); (try clear hi); have hcz17_0 : w16.cell? ⟨gb286, 0, none⟩ = some (.int .u32 a1_0) := (blk_cell BK286.out 0).trans rfl; have hcz17_1 : w16.cell? ⟨gb286, 1, none⟩ = some (.int .u32 a1_1) := (blk_cell BK286.out 1).trans rfl; have hcz17_2 : w16.cell? ⟨gb286, 2, none⟩ = some (.int .i64 a1_2) := (blk_cell BK286.out 2).trans rfl; have hcz17_3 : w16.cell? ⟨gb286, 3, none⟩ = some (.int .i64 a1_3) := (blk_cell BK286.out 3).trans rfl; have hcz17_4 : w16.cell? ⟨gb286, 4, none⟩ = some (.int .i64 a1_4) := (blk_cell BK286.out 4).trans rfl; have hfz17_0 := blk_frozen BK286.out 0; have hfz17_1 := blk_frozen BK286.out 1; have hfz17_2 := blk_frozen BK286.out 2; have hfz17_3 := blk_frozen BK286.out 3; have hfz17_4 := blk_frozen BK286.out 4) | (go_at_call 15; (with_reducible refine (stolonref10_Right.calls k a1_0 a1_1 a1_2 a1_3 a1_4 true _ A11.out).mono ?_); rintro e w18 ⟨rfl, hb⟩; have n0_ := Aside0.mk (blk_below (g := gb285) (o := .cells #[.int .i64 a0_0, .int .i64 a0_1, .int .i64 a0_2, .int .i64 a0_3] 23 (0, 0)) (by (with_reducible repeat (first | refine blk_drewN ?_ _ | refine blk_drew ?_ | refine blk_alloc ?_ _)); exact BK285.out) hb); have n1_ := Aside0.mk (blk_below (g := gb286) (o := .cells #[.int .u32 a1_0, .int .u32 a1_1, .int .i64 a1_2, .int .i64 a1_3, .int .i64 a1_4] 27 (0, 0)) (by (with_reducible repeat (first | refine blk_drewN ?_ _ | refine blk_drew ?_ | refine blk_alloc ?_ _)); exact BK286.out) hb); have n2_ := Aside0.mk (below_step (by repeat (first | (with_reducible first | exact HB.out | apply below_alloc | apply pw_below_drewN | apply below_drew1 | refine below_set ?_ GE285.out | refine below_set ?_ GE286.out) | exact HB.out)) hb); clear BK285; clear BK286; clear HB; have BK285 := n0_; have BK286 := n1_; have HB := n2_; clear n0_ n1_ n2_; (try clear hb); (try clear hb2); (try clear hk); (try clear hi)))
          go_meet
          case rel => exact ⟨_, (true), (by first | rfl | (simp; done) | (simp [*]; done)), H', ⟨by first | omega | exact Nat.le_refl _⟩, ⟨by (with_reducible repeat (first | refine blk_drewN ?_ _ | refine blk_drew ?_ | refine blk_alloc ?_ _)); exact BK285.out⟩, ⟨by (with_reducible repeat (first | refine blk_drewN ?_ _ | refine blk_drew ?_ | refine blk_alloc ?_ _)); exact BK286.out⟩, ⟨by repeat (first | (with_reducible first | exact HB.out | apply below_alloc | apply pw_below_drewN | apply below_drew1 | refine below_set ?_ GE285.out | refine below_set ?_ GE286.out) | exact HB.out)⟩⟩
        · rw [if_neg c13] at H
          have c13b0 : (a2 == 0) = false := beq_eq_false_iff_ne.mpr c13
          have c13b1 : (a2 != 0) = true := bne_iff_ne.mpr c13
          (first | rw [c13b0] | (simp only [i64_w, i32_w]; rw [c13b0]) | skip)
          by_cases c19 : a2 ≥ a1_0
          · rw [if_pos c19] at H
            have c19b0 : decide (a1_0 ≤ a2) = true := decide_eq_true c19
            clear c19
            have H' := Aside0.mk H
            clear H
            have hnb20 := NB285_286.out
            have hnc20 := NB286_285.out
            have hcz21_0 : w8.cell? ⟨gb285, 0, none⟩ = some (.int .i64 a0_0) := (blk_cell BK285.out 0).trans rfl
            have hcz21_1 : w8.cell? ⟨gb285, 1, none⟩ = some (.int .i64 a0_1) := (blk_cell BK285.out 1).trans rfl
            have hcz21_2 : w8.cell? ⟨gb285, 2, none⟩ = some (.int .i64 a0_2) := (blk_cell BK285.out 2).trans rfl
            have hcz21_3 : w8.cell? ⟨gb285, 3, none⟩ = some (.int .i64 a0_3) := (blk_cell BK285.out 3).trans rfl
            have hfz21_0 := blk_frozen BK285.out 0
            have hfz21_1 := blk_frozen BK285.out 1
            have hfz21_2 := blk_frozen BK285.out 2
            have hfz21_3 := blk_frozen BK285.out 3
            go_wp2_with (first | ((with_reducible refine gate_callee (f := 13) rfl ?_); refine goesL_ (some 17) rfl rfl Try.func13 (by kernel_rfl) rfl #[.agg #[.int .i64 a0_0, .int .i64 a0_1, .int .i64 a0_2, .int .i64 a0_3]] rfl (by (try simp only [List.map_toArray, List.map_cons, List.map_nil]); first | done | rfl | (simp only [List.length_drop, List.length_take]; rfl)) ?_; (with_reducible refine (stolonref10_May.calls a0_0 a0_1 a0_2 a0_3 true _ A9.out).mono ?_); rintro e w22 ⟨rfl, hb⟩; refine ⟨_, rfl, ?_⟩; have n0_ := Aside0.mk (blk_below (g := gb285) (o := .cells #[.int .i64 a0_0, .int .i64 a0_1, .int .i64 a0_2, .int .i64 a0_3] 23 (0, 0)) (by (with_reducible repeat (first | refine blk_drewN ?_ _ | refine blk_drew ?_ | refine blk_alloc ?_ _)); exact BK285.out) hb); have n1_ := Aside0.mk (blk_below (g := gb286) (o := .cells #[.int .u32 a1_0, .int .u32 a1_1, .int .i64 a1_2, .int .i64 a1_3, .int .i64 a1_4] 27 (0, 0)) (by (with_reducible repeat (first | refine blk_drewN ?_ _ | refine blk_drew ?_ | refine blk_alloc ?_ _)); exact BK286.out) hb); have n2_ := Aside0.mk (below_step (by repeat (first | (with_reducible first | exact HB.out | apply below_alloc | apply pw_below_drewN | apply below_drew1 | refine below_set ?_ GE285.out | refine below_set ?_ GE286.out) | exact HB.out)) hb); clear BK285; clear BK286; clear HB; have BK285 := n0_; have BK286 := n1_; have HB := n2_; clear n0_ n1_ n2_; (try clear hb); (try clear hb2); (try clear hk); (try clear hi); have hcz23_0 : w22.cell? ⟨gb286, 0, none⟩ = some (.int .u32 a1_0) := (blk_cell BK286.out 0).trans rfl; have hcz23_1 : w22.cell? ⟨gb286, 1, none⟩ = some (.int .u32 a1_1) := (blk_cell BK286.out 1).trans rfl; have hcz23_2 : w22.cell? ⟨gb286, 2, none⟩ = some (.int .i64 a1_2) := (blk_cell BK286.out 2).trans rfl; have hcz23_3 : w22.cell? ⟨gb286, 3, none⟩ = some (.int .i64 a1_3) := (blk_cell BK286.out 3).trans rfl; have hcz23_4 : w22.cell? ⟨gb286, 4, none⟩ = some (.int .i64 a1_4) := (blk_cell BK286.out 4).trans rfl; have hfz23_0 := blk_frozen BK286.out 0; have hfz23_1 := blk_frozen BK286.out 1; have hfz23_2 := blk_frozen BK286.out 2; have hfz23_3 := blk_frozen BK286.out 3; have hfz23_4 := blk_frozen BK286.out 4) | (go_at_call 15; (with_reducible refine (stolonref10_Right.calls k a1_0 a1_1 a1_2 a1_3 a1_4 true _ A11.out).mono ?_); rintro e w24 ⟨rfl, hb⟩; have n0_ := Aside0.mk (blk_below (g := gb285) (o := .cells #[.int .i64 a0_0, .int .i64 a0_1, .int .i64 a0_2, .int .i64 a0_3] 23 (0, 0)) (by (with_reducible repeat (first | refine blk_drewN ?_ _ | refine blk_drew ?_ | refine blk_alloc ?_ _)); exact BK285.out) hb); have n1_ := Aside0.mk (blk_below (g := gb286) (o := .cells #[.int .u32 a1_0, .int .u32 a1_1, .int .i64 a1_2, .int .i64 a1_3, .int .i64 a1_4] 27 (0, 0)) (by (with_reducible repeat (first | refine blk_drewN ?_ _ | refine blk_drew ?_ | refine blk_alloc ?_ _)); exact BK286.out) hb); have n2_ := Aside0.mk (below_step (by repeat (first | (with_reducible first | exact HB.out | apply below_alloc | apply pw_below_drewN | apply below_drew1 | refine below_set ?_ GE285.out | refine below_set ?_ GE286.out) | exact HB.out)) hb); clear BK285; clear BK286; clear HB; have BK285 := n0_; have BK286 := n1_; have HB := n2_; clear n0_ n1_ n2_; (try clear hb); (try clear hb2); (try clear hk); (try clear hi); have hcz25_0 : w24.cell? ⟨gb286, 0, none⟩ = some (.int .u32 a1_0) := (blk_cell BK286.out 0).trans rfl; have hcz25_1 : w24.cell? ⟨gb286, 1, none⟩ = some (.int .u32 a1_1) := (blk_cell BK286.out 1).trans rfl; have hcz25_2 : w24.cell? ⟨gb286, 2, none⟩ = some (.int .i64 a1_2) := (blk_cell BK286.out 2).trans rfl; have hcz25_3 : w24.cell? ⟨gb286, 3, none⟩ = some (.int .i64 a1_3) := (blk_cell BK286.out 3).trans rfl; have hcz25_4 : w24.cell? ⟨gb286, 4, none⟩ = some (.int .i64 a1_4) := (blk_cell BK286.out 4).trans rfl; have hfz25_0 := blk_frozen BK286.out 0; have hfz25_1 := blk_frozen BK286.out 1; have hfz25_2 := blk_frozen BK286.out 2; have hfz25_3 := blk_frozen BK286.out 3; have hfz25_4 := blk_frozen BK286.out 4))
            go_meet
            case rel => exact ⟨_, (true), (by first | rfl | (simp; done) | (simp [*]; done)), H', ⟨by first | omega | exact Nat.le_refl _⟩, ⟨by (with_reducible repeat (first | refine blk_drewN ?_ _ | refine blk_drew ?_ | refine blk_alloc ?_ _)); exact BK285.out⟩, ⟨by (with_reducible repeat (first | refine blk_drewN ?_ _ | refine blk_drew ?_ | refine blk_alloc ?_ _)); exact BK286.out⟩, ⟨by repeat (first | (with_reducible first | exact HB.out | apply below_alloc | apply pw_below_drewN | apply below_drew1 | refine below_set ?_ GE285.out | refine below_set ?_ GE286.out) | exact HB.out)⟩⟩
          · rw [if_neg c19] at H
            have c19b0 : decide (a1_0 ≤ a2) = false := decide_eq_false c19
            clear c19
            by_cases c26 : a0_3 > 100
            · rw [if_pos c26] at H
              have c26b0 : decide (100 < a0_3) = true := decide_eq_true c26
              clear c26
              have H' := Aside0.mk H
              clear H
              have hnb27 := NB285_286.out
              have hnc27 := NB286_285.out
              have hcz28_0 : w8.cell? ⟨gb285, 0, none⟩ = some (.int .i64 a0_0) := (blk_cell BK285.out 0).trans rfl
              have hcz28_1 : w8.cell? ⟨gb285, 1, none⟩ = some (.int .i64 a0_1) := (blk_cell BK285.out 1).trans rfl
              have hcz28_2 : w8.cell? ⟨gb285, 2, none⟩ = some (.int .i64 a0_2) := (blk_cell BK285.out 2).trans rfl
              have hcz28_3 : w8.cell? ⟨gb285, 3, none⟩ = some (.int .i64 a0_3) := (blk_cell BK285.out 3).trans rfl
              have hfz28_0 := blk_frozen BK285.out 0
              have hfz28_1 := blk_frozen BK285.out 1
              have hfz28_2 := blk_frozen BK285.out 2
              have hfz28_3 := blk_frozen BK285.out 3
              go_wp2_with (first | ((with_reducible refine gate_callee (f := 13) rfl ?_); refine goesL_ (some 17) rfl rfl Try.func13 (by kernel_rfl) rfl #[.agg #[.int .i64 a0_0, .int .i64 a0_1, .int .i64 a0_2, .int .i64 a0_3]] rfl (by (try simp only [List.map_toArray, List.map_cons, List.map_nil]); first | done | rfl | (simp only [List.length_drop, List.length_take]; rfl)) ?_; (with_reducible refine (stolonref10_May.calls a0_0 a0_1 a0_2 a0_3 true _ A9.out).mono ?_); rintro e w29 ⟨rfl, hb⟩; refine ⟨_, rfl, ?_⟩; have n0_ := Aside0.mk (blk_below (g := gb285) (o := .cells #[.int .i64 a0_0, .int .i64 a0_1, .int .i64 a0_2, .int .i64 a0_3] 23 (0, 0)) (by (with_reducible repeat (first | refine blk_drewN ?_ _ | refine blk_drew ?_ | refine blk_alloc ?_ _)); exact BK285.out) hb); have n1_ := Aside0.mk (blk_below (g := gb286) (o := .cells #[.int .u32 a1_0, .int .u32 a1_1, .int .i64 a1_2, .int .i64 a1_3, .int .i64 a1_4] 27 (0, 0)) (by (with_reducible repeat (first | refine blk_drewN ?_ _ | refine blk_drew ?_ | refine blk_alloc ?_ _)); exact BK286.out) hb); have n2_ := Aside0.mk (below_step (by repeat (first | (with_reducible first | exact HB.out | apply below_alloc | apply pw_below_drewN | apply below_drew1 | refine below_set ?_ GE285.out | refine below_set ?_ GE286.out) | exact HB.out)) hb); clear BK285; clear BK286; clear HB; have BK285 := n0_; have BK286 := n1_; have HB := n2_; clear n0_ n1_ n2_; (try clear hb); (try clear hb2); (try clear hk); (try clear hi); have hcz30_0 : w29.cell? ⟨gb286, 0, none⟩ = some (.int .u32 a1_0) := (blk_cell BK286.out 0).trans rfl; have hcz30_1 : w29.cell? ⟨gb286, 1, none⟩ = some (.int .u32 a1_1) := (blk_cell BK286.out 1).trans rfl; have hcz30_2 : w29.cell? ⟨gb286, 2, none⟩ = some (.int .i64 a1_2) := (blk_cell BK286.out 2).trans rfl; have hcz30_3 : w29.cell? ⟨gb286, 3, none⟩ = some (.int .i64 a1_3) := (blk_cell BK286.out 3).trans rfl; have hcz30_4 : w29.cell? ⟨gb286, 4, none⟩ = some (.int .i64 a1_4) := (blk_cell BK286.out 4).trans rfl; have hfz30_0 := blk_frozen BK286.out 0; have hfz30_1 := blk_frozen BK286.out 1; have hfz30_2 := blk_frozen BK286.out 2; have hfz30_3 := blk_frozen BK286.out 3; have hfz30_4 := blk_frozen BK286.out 4) | (go_at_call 15; (with_reducible refine (stolonref10_Right.calls k a1_0 a1_1 a1_2 a1_3 a1_4 true _ A11.out).mono ?_); rintro e w31 ⟨rfl, hb⟩; have n0_ := Aside0.mk (blk_below (g := gb285) (o := .cells #[.int .i64 a0_0, .int .i64 a0_1, .int .i64 a0_2, .int .i64 a0_3] 23 (0, 0)) (by (with_reducible repeat (first | refine blk_drewN ?_ _ | refine blk_drew ?_ | refine blk_alloc ?_ _)); exact BK285.out) hb); have n1_ := Aside0.mk (blk_below (g := gb286) (o := .cells #[.int .u32 a1_0, .int .u32 a1_1, .int .i64 a1_2, .int .i64 a1_3, .int .i64 a1_4] 27 (0, 0)) (by (with_reducible repeat (first | refine blk_drewN ?_ _ | refine blk_drew ?_ | refine blk_alloc ?_ _)); exact BK286.out) hb); have n2_ := Aside0.mk (below_step (by repeat (first | (with_reducible first | exact HB.out | apply below_alloc | apply pw_below_drewN | apply below_drew1 | refine below_set ?_ GE285.out | refine below_set ?_ GE286.out) | exact HB.out)) hb); clear BK285; clear BK286; clear HB; have BK285 := n0_; have BK286 := n1_; have HB := n2_; clear n0_ n1_ n2_; (try clear hb); (try clear hb2); (try clear hk); (try clear hi); have hcz32_0 : w31.cell? ⟨gb286, 0, none⟩ = some (.int .u32 a1_0) := (blk_cell BK286.out 0).trans rfl; have hcz32_1 : w31.cell? ⟨gb286, 1, none⟩ = some (.int .u32 a1_1) := (blk_cell BK286.out 1).trans rfl; have hcz32_2 : w31.cell? ⟨gb286, 2, none⟩ = some (.int .i64 a1_2) := (blk_cell BK286.out 2).trans rfl; have hcz32_3 : w31.cell? ⟨gb286, 3, none⟩ = some (.int .i64 a1_3) := (blk_cell BK286.out 3).trans rfl; have hcz32_4 : w31.cell? ⟨gb286, 4, none⟩ = some (.int .i64 a1_4) := (blk_cell BK286.out 4).trans rfl; have hfz32_0 := blk_frozen BK286.out 0; have hfz32_1 := blk_frozen BK286.out 1; have hfz32_2 := blk_frozen BK286.out 2; have hfz32_3 := blk_frozen BK286.out 3; have hfz32_4 := blk_frozen BK286.out 4; have hcz33_0 : w31.cell? ⟨gb285, 0, none⟩ = some (.int .i64 a0_0) := (blk_cell BK285.out 0).trans rfl; have hcz33_1 : w31.cell? ⟨gb285, 1, none⟩ = some (.int .i64 a0_1) := (blk_cell BK285.out 1).trans rfl; have hcz33_2 : w31.cell? ⟨gb285, 2, none⟩ = some (.int .i64 a0_2) := (blk_cell BK285.out 2).trans rfl; have hcz33_3 : w31.cell? ⟨gb285, 3, none⟩ = some (.int .i64 a0_3) := (blk_cell BK285.out 3).trans rfl; have hfz33_0 := blk_frozen BK285.out 0; have hfz33_1 := blk_frozen BK285.out 1; have hfz33_2 := blk_frozen BK285.out 2; have hfz33_3 := blk_frozen BK285.out 3))
              go_meet
              case rel => exact ⟨_, (true), (by first | rfl | (simp; done) | (simp [*]; done)), H', ⟨by first | omega | exact Nat.le_refl _⟩, ⟨by (with_reducible repeat (first | refine blk_drewN ?_ _ | refine blk_drew ?_ | refine blk_alloc ?_ _)); exact BK285.out⟩, ⟨by (with_reducible repeat (first | refine blk_drewN ?_ _ | refine blk_drew ?_ | refine blk_alloc ?_ _)); exact BK286.out⟩, ⟨by repeat (first | (with_reducible first | exact HB.out | apply below_alloc | apply pw_below_drewN | apply below_drew1 | refine below_set ?_ GE285.out | refine below_set ?_ GE286.out) | exact HB.out)⟩⟩
            · rw [if_neg c26] at H
              have c26b0 : decide (100 < a0_3) = false := decide_eq_false c26
              clear c26
              by_cases c34 : a1_1 = 0
              · rw [if_pos c34] at H
                have c34b0 : (a1_1 == 0) = true := beq_iff_eq.mpr c34
                have c34b1 : (a1_1 != 0) = false := bne_eq_false_iff_eq.mpr c34
                clear c34
                have H' := Aside0.mk H
                clear H
                have hnb35 := NB285_286.out
                have hnc35 := NB286_285.out
                have hcz36_0 : w8.cell? ⟨gb285, 0, none⟩ = some (.int .i64 a0_0) := (blk_cell BK285.out 0).trans rfl
                have hcz36_1 : w8.cell? ⟨gb285, 1, none⟩ = some (.int .i64 a0_1) := (blk_cell BK285.out 1).trans rfl
                have hcz36_2 : w8.cell? ⟨gb285, 2, none⟩ = some (.int .i64 a0_2) := (blk_cell BK285.out 2).trans rfl
                have hcz36_3 : w8.cell? ⟨gb285, 3, none⟩ = some (.int .i64 a0_3) := (blk_cell BK285.out 3).trans rfl
                have hfz36_0 := blk_frozen BK285.out 0
                have hfz36_1 := blk_frozen BK285.out 1
                have hfz36_2 := blk_frozen BK285.out 2
                have hfz36_3 := blk_frozen BK285.out 3
                go_wp2_with (first | ((with_reducible refine gate_callee (f := 13) rfl ?_); refine goesL_ (some 17) rfl rfl Try.func13 (by kernel_rfl) rfl #[.agg #[.int .i64 a0_0, .int .i64 a0_1, .int .i64 a0_2, .int .i64 a0_3]] rfl (by (try simp only [List.map_toArray, List.map_cons, List.map_nil]); first | done | rfl | (simp only [List.length_drop, List.length_take]; rfl)) ?_; (with_reducible refine (stolonref10_May.calls a0_0 a0_1 a0_2 a0_3 true _ A9.out).mono ?_); rintro e w37 ⟨rfl, hb⟩; refine ⟨_, rfl, ?_⟩; have n0_ := Aside0.mk (blk_below (g := gb285) (o := .cells #[.int .i64 a0_0, .int .i64 a0_1, .int .i64 a0_2, .int .i64 a0_3] 23 (0, 0)) (by (with_reducible repeat (first | refine blk_drewN ?_ _ | refine blk_drew ?_ | refine blk_alloc ?_ _)); exact BK285.out) hb); have n1_ := Aside0.mk (blk_below (g := gb286) (o := .cells #[.int .u32 a1_0, .int .u32 a1_1, .int .i64 a1_2, .int .i64 a1_3, .int .i64 a1_4] 27 (0, 0)) (by (with_reducible repeat (first | refine blk_drewN ?_ _ | refine blk_drew ?_ | refine blk_alloc ?_ _)); exact BK286.out) hb); have n2_ := Aside0.mk (below_step (by repeat (first | (with_reducible first | exact HB.out | apply below_alloc | apply pw_below_drewN | apply below_drew1 | refine below_set ?_ GE285.out | refine below_set ?_ GE286.out) | exact HB.out)) hb); clear BK285; clear BK286; clear HB; have BK285 := n0_; have BK286 := n1_; have HB := n2_; clear n0_ n1_ n2_; (try clear hb); (try clear hb2); (try clear hk); (try clear hi); have hcz38_0 : w37.cell? ⟨gb286, 0, none⟩ = some (.int .u32 a1_0) := (blk_cell BK286.out 0).trans rfl; have hcz38_1 : w37.cell? ⟨gb286, 1, none⟩ = some (.int .u32 a1_1) := (blk_cell BK286.out 1).trans rfl; have hcz38_2 : w37.cell? ⟨gb286, 2, none⟩ = some (.int .i64 a1_2) := (blk_cell BK286.out 2).trans rfl; have hcz38_3 : w37.cell? ⟨gb286, 3, none⟩ = some (.int .i64 a1_3) := (blk_cell BK286.out 3).trans rfl; have hcz38_4 : w37.cell? ⟨gb286, 4, none⟩ = some (.int .i64 a1_4) := (blk_cell BK286.out 4).trans rfl; have hfz38_0 := blk_frozen BK286.out 0; have hfz38_1 := blk_frozen BK286.out 1; have hfz38_2 := blk_frozen BK286.out 2; have hfz38_3 := blk_frozen BK286.out 3; have hfz38_4 := blk_frozen BK286.out 4) | (go_at_call 15; (with_reducible refine (stolonref10_Right.calls k a1_0 a1_1 a1_2 a1_3 a1_4 true _ A11.out).mono ?_); rintro e w39 ⟨rfl, hb⟩; have n0_ := Aside0.mk (blk_below (g := gb285) (o := .cells #[.int .i64 a0_0, .int .i64 a0_1, .int .i64 a0_2, .int .i64 a0_3] 23 (0, 0)) (by (with_reducible repeat (first | refine blk_drewN ?_ _ | refine blk_drew ?_ | refine blk_alloc ?_ _)); exact BK285.out) hb); have n1_ := Aside0.mk (blk_below (g := gb286) (o := .cells #[.int .u32 a1_0, .int .u32 a1_1, .int .i64 a1_2, .int .i64 a1_3, .int .i64 a1_4] 27 (0, 0)) (by (with_reducible repeat (first | refine blk_drewN ?_ _ | refine blk_drew ?_ | refine blk_alloc ?_ _)); exact BK286.out) hb); have n2_ := Aside0.mk (below_step (by repeat (first | (with_reducible first | exact HB.out | apply below_alloc | apply pw_below_drewN | apply below_drew1 | refine below_set ?_ GE285.out | refine below_set ?_ GE286.out) | exact HB.out)) hb); clear BK285; clear BK286; clear HB; have BK285 := n0_; have BK286 := n1_; have HB := n2_; clear n0_ n1_ n2_; (try clear hb); (try clear hb2); (try clear hk); (try clear hi); have hcz40_0 : w39.cell? ⟨gb286, 0, none⟩ = some (.int .u32 a1_0) := (blk_cell BK286.out 0).trans rfl; have hcz40_1 : w39.cell? ⟨gb286, 1, none⟩ = some (.int .u32 a1_1) := (blk_cell BK286.out 1).trans rfl; have hcz40_2 : w39.cell? ⟨gb286, 2, none⟩ = some (.int .i64 a1_2) := (blk_cell BK286.out 2).trans rfl; have hcz40_3 : w39.cell? ⟨gb286, 3, none⟩ = some (.int .i64 a1_3) := (blk_cell BK286.out 3).trans rfl; have hcz40_4 : w39.cell? ⟨gb286, 4, none⟩ = some (.int .i64 a1_4) := (blk_cell BK286.out 4).trans rfl; have hfz40_0 := blk_frozen BK286.out 0; have hfz40_1 := blk_frozen BK286.out 1; have hfz40_2 := blk_frozen BK286.out 2; have hfz40_3 := blk_frozen BK286.out 3; have hfz40_4 := blk_frozen BK286.out 4; have hcz41_0 : w39.cell? ⟨gb285, 0, none⟩ = some (.int .i64 a0_0) := (blk_cell BK285.out 0).trans rfl; have hcz41_1 : w39.cell? ⟨gb285, 1, none⟩ = some (.int .i64 a0_1) := (blk_cell BK285.out 1).trans rfl; have hcz41_2 : w39.cell? ⟨gb285, 2, none⟩ = some (.int .i64 a0_2) := (blk_cell BK285.out 2).trans rfl; have hcz41_3 : w39.cell? ⟨gb285, 3, none⟩ = some (.int .i64 a0_3) := (blk_cell BK285.out 3).trans rfl; have hfz41_0 := blk_frozen BK285.out 0; have hfz41_1 := blk_frozen BK285.out 1; have hfz41_2 := blk_frozen BK285.out 2; have hfz41_3 := blk_frozen BK285.out 3))
                go_meet
                case rel => exact ⟨_, (false), (by first | rfl | (simp; done) | (simp [*]; done)), H', ⟨by first | omega | exact Nat.le_refl _⟩, ⟨by (with_reducible repeat (first | refine blk_drewN ?_ _ | refine blk_drew ?_ | refine blk_alloc ?_ _)); exact BK285.out⟩, ⟨by (with_reducible repeat (first | refine blk_drewN ?_ _ | refine blk_drew ?_ | refine blk_alloc ?_ _)); exact BK286.out⟩, ⟨by repeat (first | (with_reducible first | exact HB.out | apply below_alloc | apply pw_below_drewN | apply below_drew1 | refine below_set ?_ GE285.out | refine below_set ?_ GE286.out) | exact HB.out)⟩⟩
              · rw [if_neg c34] at H
                have c34b0 : (a1_1 == 0) = false := beq_eq_false_iff_ne.mpr c34
                have c34b1 : (a1_1 != 0) = true := bne_iff_ne.mpr c34
                have H' := Aside0.mk H
                clear H
                have hnb42 := NB285_286.out
                have hnc42 := NB286_285.out
                have hcz43_0 : w8.cell? ⟨gb285, 0, none⟩ = some (.int .i64 a0_0) := (blk_cell BK285.out 0).trans rfl
                have hcz43_1 : w8.cell? ⟨gb285, 1, none⟩ = some (.int .i64 a0_1) := (blk_cell BK285.out 1).trans rfl
                have hcz43_2 : w8.cell? ⟨gb285, 2, none⟩ = some (.int .i64 a0_2) := (blk_cell BK285.out 2).trans rfl
                have hcz43_3 : w8.cell? ⟨gb285, 3, none⟩ = some (.int .i64 a0_3) := (blk_cell BK285.out 3).trans rfl
                have hfz43_0 := blk_frozen BK285.out 0
                have hfz43_1 := blk_frozen BK285.out 1
                have hfz43_2 := blk_frozen BK285.out 2
                have hfz43_3 := blk_frozen BK285.out 3
                go_wp2_with (first | ((with_reducible refine gate_callee (f := 13) rfl ?_); refine goesL_ (some 17) rfl rfl Try.func13 (by kernel_rfl) rfl #[.agg #[.int .i64 a0_0, .int .i64 a0_1, .int .i64 a0_2, .int .i64 a0_3]] rfl (by (try simp only [List.map_toArray, List.map_cons, List.map_nil]); first | done | rfl | (simp only [List.length_drop, List.length_take]; rfl)) ?_; (with_reducible refine (stolonref10_May.calls a0_0 a0_1 a0_2 a0_3 true _ A9.out).mono ?_); rintro e w44 ⟨rfl, hb⟩; refine ⟨_, rfl, ?_⟩; have n0_ := Aside0.mk (blk_below (g := gb285) (o := .cells #[.int .i64 a0_0, .int .i64 a0_1, .int .i64 a0_2, .int .i64 a0_3] 23 (0, 0)) (by (with_reducible repeat (first | refine blk_drewN ?_ _ | refine blk_drew ?_ | refine blk_alloc ?_ _)); exact BK285.out) hb); have n1_ := Aside0.mk (blk_below (g := gb286) (o := .cells #[.int .u32 a1_0, .int .u32 a1_1, .int .i64 a1_2, .int .i64 a1_3, .int .i64 a1_4] 27 (0, 0)) (by (with_reducible repeat (first | refine blk_drewN ?_ _ | refine blk_drew ?_ | refine blk_alloc ?_ _)); exact BK286.out) hb); have n2_ := Aside0.mk (below_step (by repeat (first | (with_reducible first | exact HB.out | apply below_alloc | apply pw_below_drewN | apply below_drew1 | refine below_set ?_ GE285.out | refine below_set ?_ GE286.out) | exact HB.out)) hb); clear BK285; clear BK286; clear HB; have BK285 := n0_; have BK286 := n1_; have HB := n2_; clear n0_ n1_ n2_; (try clear hb); (try clear hb2); (try clear hk); (try clear hi); have hcz45_0 : w44.cell? ⟨gb286, 0, none⟩ = some (.int .u32 a1_0) := (blk_cell BK286.out 0).trans rfl; have hcz45_1 : w44.cell? ⟨gb286, 1, none⟩ = some (.int .u32 a1_1) := (blk_cell BK286.out 1).trans rfl; have hcz45_2 : w44.cell? ⟨gb286, 2, none⟩ = some (.int .i64 a1_2) := (blk_cell BK286.out 2).trans rfl; have hcz45_3 : w44.cell? ⟨gb286, 3, none⟩ = some (.int .i64 a1_3) := (blk_cell BK286.out 3).trans rfl; have hcz45_4 : w44.cell? ⟨gb286, 4, none⟩ = some (.int .i64 a1_4) := (blk_cell BK286.out 4).trans rfl; have hfz45_0 := blk_frozen BK286.out 0; have hfz45_1 := blk_frozen BK286.out 1; have hfz45_2 := blk_frozen BK286.out 2; have hfz45_3 := blk_frozen BK286.out 3; have hfz45_4 := blk_frozen BK286.out 4) | (go_at_call 15; (with_reducible refine (stolonref10_Right.calls k a1_0 a1_1 a1_2 a1_3 a1_4 true _ A11.out).mono ?_); rintro e w46 ⟨rfl, hb⟩; have n0_ := Aside0.mk (blk_below (g := gb285) (o := .cells #[.int .i64 a0_0, .int .i64 a0_1, .int .i64 a0_2, .int .i64 a0_3] 23 (0, 0)) (by (with_reducible repeat (first | refine blk_drewN ?_ _ | refine blk_drew ?_ | refine blk_alloc ?_ _)); exact BK285.out) hb); have n1_ := Aside0.mk (blk_below (g := gb286) (o := .cells #[.int .u32 a1_0, .int .u32 a1_1, .int .i64 a1_2, .int .i64 a1_3, .int .i64 a1_4] 27 (0, 0)) (by (with_reducible repeat (first | refine blk_drewN ?_ _ | refine blk_drew ?_ | refine blk_alloc ?_ _)); exact BK286.out) hb); have n2_ := Aside0.mk (below_step (by repeat (first | (with_reducible first | exact HB.out | apply below_alloc | apply pw_below_drewN | apply below_drew1 | refine below_set ?_ GE285.out | refine below_set ?_ GE286.out) | exact HB.out)) hb); clear BK285; clear BK286; clear HB; have BK285 := n0_; have BK286 := n1_; have HB := n2_; clear n0_ n1_ n2_; (try clear hb); (try clear hb2); (try clear hk); (try clear hi); have hcz47_0 : w46.cell? ⟨gb286, 0, none⟩ = some (.int .u32 a1_0) := (blk_cell BK286.out 0).trans rfl; have hcz47_1 : w46.cell? ⟨gb286, 1, none⟩ = some (.int .u32 a1_1) := (blk_cell BK286.out 1).trans rfl; have hcz47_2 : w46.cell? ⟨gb286, 2, none⟩ = some (.int .i64 a1_2) := (blk_cell BK286.out 2).trans rfl; have hcz47_3 : w46.cell? ⟨gb286, 3, none⟩ = some (.int .i64 a1_3) := (blk_cell BK286.out 3).trans rfl; have hcz47_4 : w46.cell? ⟨gb286, 4, none⟩ = some (.int .i64 a1_4) := (blk_cell BK286.out 4).trans rfl; have hfz47_0 := blk_frozen BK286.out 0; have hfz47_1 := blk_frozen BK286.out 1; have hfz47_2 := blk_frozen BK286.out 2; have hfz47_3 := blk_frozen BK286.out 3; have hfz47_4 := blk_frozen BK286.out 4; have hcz48_0 : w46.cell? ⟨gb285, 0, none⟩ = some (.int .i64 a0_0) := (blk_cell BK285.out 0).trans rfl; have hcz48_1 : w46.cell? ⟨gb285, 1, none⟩ = some (.int .i64 a0_1) := (blk_cell BK285.out 1).trans rfl; have hcz48_2 : w46.cell? ⟨gb285, 2, none⟩ = some (.int .i64 a0_2) := (blk_cell BK285.out 2).trans rfl; have hcz48_3 : w46.cell? ⟨gb285, 3, none⟩ = some (.int .i64 a0_3) := (blk_cell BK285.out 3).trans rfl; have hfz48_0 := blk_frozen BK285.out 0; have hfz48_1 := blk_frozen BK285.out 1; have hfz48_2 := blk_frozen BK285.out 2; have hfz48_3 := blk_frozen BK285.out 3))
                go_meet
                case rel => exact ⟨_, (decide (a1_1 < a2)), (by first | rfl | (simp; done) | (simp [*]; done)), H', ⟨by first | omega | exact Nat.le_refl _⟩, ⟨by (with_reducible repeat (first | refine blk_drewN ?_ _ | refine blk_drew ?_ | refine blk_alloc ?_ _)); exact BK285.out⟩, ⟨by (with_reducible repeat (first | refine blk_drewN ?_ _ | refine blk_drew ?_ | refine blk_alloc ?_ _)); exact BK286.out⟩, ⟨by repeat (first | (with_reducible first | exact HB.out | apply below_alloc | apply pw_below_drewN | apply below_drew1 | refine below_set ?_ GE285.out | refine below_set ?_ GE286.out) | exact HB.out)⟩⟩
      · replace c12 := Bool.eq_false_iff.mpr c12
        subst c12
        have H1 : (stolonlaw10_QuerierBack.j0 k a2 t287 true a0_0 a0_1 a0_2 a0_3 a1_0 a1_1 a1_2 a1_3 a1_4) = some r := by rw [if_neg (show ¬ (false = true) by decide)] at H; exact H
        clear H
        have H := H1
        clear H1
        have H' := Aside0.mk H
        clear H
        have hnb49 := NB285_286.out
        have hnc49 := NB286_285.out
        have hcz50_0 : w8.cell? ⟨gb285, 0, none⟩ = some (.int .i64 a0_0) := (blk_cell BK285.out 0).trans rfl
        have hcz50_1 : w8.cell? ⟨gb285, 1, none⟩ = some (.int .i64 a0_1) := (blk_cell BK285.out 1).trans rfl
        have hcz50_2 : w8.cell? ⟨gb285, 2, none⟩ = some (.int .i64 a0_2) := (blk_cell BK285.out 2).trans rfl
        have hcz50_3 : w8.cell? ⟨gb285, 3, none⟩ = some (.int .i64 a0_3) := (blk_cell BK285.out 3).trans rfl
        have hfz50_0 := blk_frozen BK285.out 0
        have hfz50_1 := blk_frozen BK285.out 1
        have hfz50_2 := blk_frozen BK285.out 2
        have hfz50_3 := blk_frozen BK285.out 3
        go_wp2_with (first | ((with_reducible refine gate_callee (f := 13) rfl ?_); refine goesL_ (some 17) rfl rfl Try.func13 (by kernel_rfl) rfl #[.agg #[.int .i64 a0_0, .int .i64 a0_1, .int .i64 a0_2, .int .i64 a0_3]] rfl (by (try simp only [List.map_toArray, List.map_cons, List.map_nil]); first | done | rfl | (simp only [List.length_drop, List.length_take]; rfl)) ?_; (with_reducible refine (stolonref10_May.calls a0_0 a0_1 a0_2 a0_3 true _ A9.out).mono ?_); rintro e w51 ⟨rfl, hb⟩; refine ⟨_, rfl, ?_⟩; have n0_ := Aside0.mk (blk_below (g := gb285) (o := .cells #[.int .i64 a0_0, .int .i64 a0_1, .int .i64 a0_2, .int .i64 a0_3] 23 (0, 0)) (by (with_reducible repeat (first | refine blk_drewN ?_ _ | refine blk_drew ?_ | refine blk_alloc ?_ _)); exact BK285.out) hb); have n1_ := Aside0.mk (blk_below (g := gb286) (o := .cells #[.int .u32 a1_0, .int .u32 a1_1, .int .i64 a1_2, .int .i64 a1_3, .int .i64 a1_4] 27 (0, 0)) (by (with_reducible repeat (first | refine blk_drewN ?_ _ | refine blk_drew ?_ | refine blk_alloc ?_ _)); exact BK286.out) hb); have n2_ := Aside0.mk (below_step (by repeat (first | (with_reducible first | exact HB.out | apply below_alloc | apply pw_below_drewN | apply below_drew1 | refine below_set ?_ GE285.out | refine below_set ?_ GE286.out) | exact HB.out)) hb); clear BK285; clear BK286; clear HB; have BK285 := n0_; have BK286 := n1_; have HB := n2_; clear n0_ n1_ n2_; (try clear hb); (try clear hb2); (try clear hk); (try clear hi); have hcz52_0 : w51.cell? ⟨gb286, 0, none⟩ = some (.int .u32 a1_0) := (blk_cell BK286.out 0).trans rfl; have hcz52_1 : w51.cell? ⟨gb286, 1, none⟩ = some (.int .u32 a1_1) := (blk_cell BK286.out 1).trans rfl; have hcz52_2 : w51.cell? ⟨gb286, 2, none⟩ = some (.int .i64 a1_2) := (blk_cell BK286.out 2).trans rfl; have hcz52_3 : w51.cell? ⟨gb286, 3, none⟩ = some (.int .i64 a1_3) := (blk_cell BK286.out 3).trans rfl; have hcz52_4 : w51.cell? ⟨gb286, 4, none⟩ = some (.int .i64 a1_4) := (blk_cell BK286.out 4).trans rfl; have hfz52_0 := blk_frozen BK286.out 0; have hfz52_1 := blk_frozen BK286.out 1; have hfz52_2 := blk_frozen BK286.out 2; have hfz52_3 := blk_frozen BK286.out 3; have hfz52_4 := blk_frozen BK286.out 4) | (go_at_call 15; (with_reducible refine (stolonref10_Right.calls k a1_0 a1_1 a1_2 a1_3 a1_4 false _ A11.out).mono ?_); rintro e w53 ⟨rfl, hb⟩; have n0_ := Aside0.mk (blk_below (g := gb285) (o := .cells #[.int .i64 a0_0, .int .i64 a0_1, .int .i64 a0_2, .int .i64 a0_3] 23 (0, 0)) (by (with_reducible repeat (first | refine blk_drewN ?_ _ | refine blk_drew ?_ | refine blk_alloc ?_ _)); exact BK285.out) hb); have n1_ := Aside0.mk (blk_below (g := gb286) (o := .cells #[.int .u32 a1_0, .int .u32 a1_1, .int .i64 a1_2, .int .i64 a1_3, .int .i64 a1_4] 27 (0, 0)) (by (with_reducible repeat (first | refine blk_drewN ?_ _ | refine blk_drew ?_ | refine blk_alloc ?_ _)); exact BK286.out) hb); have n2_ := Aside0.mk (below_step (by repeat (first | (with_reducible first | exact HB.out | apply below_alloc | apply pw_below_drewN | apply below_drew1 | refine below_set ?_ GE285.out | refine below_set ?_ GE286.out) | exact HB.out)) hb); clear BK285; clear BK286; clear HB; have BK285 := n0_; have BK286 := n1_; have HB := n2_; clear n0_ n1_ n2_; (try clear hb); (try clear hb2); (try clear hk); (try clear hi)))
        go_meet
        case rel => exact ⟨_, (true), (by first | rfl | (simp; done) | (simp [*]; done)), H', ⟨by first | omega | exact Nat.le_refl _⟩, ⟨by (with_reducible repeat (first | refine blk_drewN ?_ _ | refine blk_drew ?_ | refine blk_alloc ?_ _)); exact BK285.out⟩, ⟨by (with_reducible repeat (first | refine blk_drewN ?_ _ | refine blk_drew ?_ | refine blk_alloc ?_ _)); exact BK286.out⟩, ⟨by repeat (first | (with_reducible first | exact HB.out | apply below_alloc | apply pw_below_drewN | apply below_drew1 | refine below_set ?_ GE285.out | refine below_set ?_ GE286.out) | exact HB.out)⟩⟩
    · replace c10 := Bool.eq_false_iff.mpr c10
      subst c10
      have H1 : (stolonlaw10_QuerierBack.j0 k a2 t287 true a0_0 a0_1 a0_2 a0_3 a1_0 a1_1 a1_2 a1_3 a1_4) = some r := by rw [if_neg (show ¬ (false = true) by decide)] at H; exact H
      clear H
      have H := H1
      clear H1
      have H' := Aside0.mk H
      clear H
      have hnb54 := NB285_286.out
      have hnc54 := NB286_285.out
      have hcz55_0 : w8.cell? ⟨gb285, 0, none⟩ = some (.int .i64 a0_0) := (blk_cell BK285.out 0).trans rfl
      have hcz55_1 : w8.cell? ⟨gb285, 1, none⟩ = some (.int .i64 a0_1) := (blk_cell BK285.out 1).trans rfl
      have hcz55_2 : w8.cell? ⟨gb285, 2, none⟩ = some (.int .i64 a0_2) := (blk_cell BK285.out 2).trans rfl
      have hcz55_3 : w8.cell? ⟨gb285, 3, none⟩ = some (.int .i64 a0_3) := (blk_cell BK285.out 3).trans rfl
      have hfz55_0 := blk_frozen BK285.out 0
      have hfz55_1 := blk_frozen BK285.out 1
      have hfz55_2 := blk_frozen BK285.out 2
      have hfz55_3 := blk_frozen BK285.out 3
      go_wp2_with (first | ((with_reducible refine gate_callee (f := 13) rfl ?_); refine goesL_ (some 17) rfl rfl Try.func13 (by kernel_rfl) rfl #[.agg #[.int .i64 a0_0, .int .i64 a0_1, .int .i64 a0_2, .int .i64 a0_3]] rfl (by (try simp only [List.map_toArray, List.map_cons, List.map_nil]); first | done | rfl | (simp only [List.length_drop, List.length_take]; rfl)) ?_; (with_reducible refine (stolonref10_May.calls a0_0 a0_1 a0_2 a0_3 false _ A9.out).mono ?_); rintro e w56 ⟨rfl, hb⟩; refine ⟨_, rfl, ?_⟩; have n0_ := Aside0.mk (blk_below (g := gb285) (o := .cells #[.int .i64 a0_0, .int .i64 a0_1, .int .i64 a0_2, .int .i64 a0_3] 23 (0, 0)) (by (with_reducible repeat (first | refine blk_drewN ?_ _ | refine blk_drew ?_ | refine blk_alloc ?_ _)); exact BK285.out) hb); have n1_ := Aside0.mk (blk_below (g := gb286) (o := .cells #[.int .u32 a1_0, .int .u32 a1_1, .int .i64 a1_2, .int .i64 a1_3, .int .i64 a1_4] 27 (0, 0)) (by (with_reducible repeat (first | refine blk_drewN ?_ _ | refine blk_drew ?_ | refine blk_alloc ?_ _)); exact BK286.out) hb); have n2_ := Aside0.mk (below_step (by repeat (first | (with_reducible first | exact HB.out | apply below_alloc | apply pw_below_drewN | apply below_drew1 | refine below_set ?_ GE285.out | refine below_set ?_ GE286.out) | exact HB.out)) hb); clear BK285; clear BK286; clear HB; have BK285 := n0_; have BK286 := n1_; have HB := n2_; clear n0_ n1_ n2_; (try clear hb); (try clear hb2); (try clear hk); (try clear hi)))
      go_meet
      case rel => exact ⟨_, (true), (by first | rfl | (simp; done) | (simp [*]; done)), H', ⟨by first | omega | exact Nat.le_refl _⟩, ⟨by (with_reducible repeat (first | refine blk_drewN ?_ _ | refine blk_drew ?_ | refine blk_alloc ?_ _)); exact BK285.out⟩, ⟨by (with_reducible repeat (first | refine blk_drewN ?_ _ | refine blk_drew ?_ | refine blk_alloc ?_ _)); exact BK286.out⟩, ⟨by repeat (first | (with_reducible first | exact HB.out | apply below_alloc | apply pw_below_drewN | apply below_drew1 | refine below_set ?_ GE285.out | refine below_set ?_ GE286.out) | exact HB.out)⟩⟩
  case rest =>
    clear HC5
    try clear c1
    try clear c2
    try clear p2
    try clear c3
    try clear c4
    try clear c5
    try clear c7
    try clear c9
    try clear c10
    try clear c12
    try clear c13
    try clear c13b0
    try clear c13b1
    try clear c14
    try clear c19
    try clear c19b0
    try clear c20
    try clear c26
    try clear c26b0
    try clear c27
    try clear c34
    try clear c34b0
    try clear c34b1
    try clear c35
    try clear c42
    try clear c49
    try clear c54
    try clear hcz15_0
    try clear hcz15_1
    try clear hcz15_2
    try clear hcz15_3
    try clear hcz17_0
    try clear hcz17_1
    try clear hcz17_2
    try clear hcz17_3
    try clear hcz17_4
    try clear hcz21_0
    try clear hcz21_1
    try clear hcz21_2
    try clear hcz21_3
    try clear hcz23_0
    try clear hcz23_1
    try clear hcz23_2
    try clear hcz23_3
    try clear hcz23_4
    try clear hcz25_0
    try clear hcz25_1
    try clear hcz25_2
    try clear hcz25_3
    try clear hcz25_4
    try clear hcz28_0
    try clear hcz28_1
    try clear hcz28_2
    try clear hcz28_3
    try clear hcz30_0
    try clear hcz30_1
    try clear hcz30_2
    try clear hcz30_3
    try clear hcz30_4
    try clear hcz32_0
    try clear hcz32_1
    try clear hcz32_2
    try clear hcz32_3
    try clear hcz32_4
    try clear hcz33_0
    try clear hcz33_1
    try clear hcz33_2
    try clear hcz33_3
    try clear hcz36_0
    try clear hcz36_1
    try clear hcz36_2
    try clear hcz36_3
    try clear hcz38_0
    try clear hcz38_1
    try clear hcz38_2
    try clear hcz38_3
    try clear hcz38_4
    try clear hcz40_0
    try clear hcz40_1
    try clear hcz40_2
    try clear hcz40_3
    try clear hcz40_4
    try clear hcz41_0
    try clear hcz41_1
    try clear hcz41_2
    try clear hcz41_3
    try clear hcz43_0
    try clear hcz43_1
    try clear hcz43_2
    try clear hcz43_3
    try clear hcz45_0
    try clear hcz45_1
    try clear hcz45_2
    try clear hcz45_3
    try clear hcz45_4
    try clear hcz47_0
    try clear hcz47_1
    try clear hcz47_2
    try clear hcz47_3
    try clear hcz47_4
    try clear hcz48_0
    try clear hcz48_1
    try clear hcz48_2
    try clear hcz48_3
    try clear hcz50_0
    try clear hcz50_1
    try clear hcz50_2
    try clear hcz50_3
    try clear hcz52_0
    try clear hcz52_1
    try clear hcz52_2
    try clear hcz52_3
    try clear hcz52_4
    try clear hcz55_0
    try clear hcz55_1
    try clear hcz55_2
    try clear hcz55_3
    try clear hfz15_0
    try clear hfz15_1
    try clear hfz15_2
    try clear hfz15_3
    try clear hfz17_0
    try clear hfz17_1
    try clear hfz17_2
    try clear hfz17_3
    try clear hfz17_4
    try clear hfz21_0
    try clear hfz21_1
    try clear hfz21_2
    try clear hfz21_3
    try clear hfz23_0
    try clear hfz23_1
    try clear hfz23_2
    try clear hfz23_3
    try clear hfz23_4
    try clear hfz25_0
    try clear hfz25_1
    try clear hfz25_2
    try clear hfz25_3
    try clear hfz25_4
    try clear hfz28_0
    try clear hfz28_1
    try clear hfz28_2
    try clear hfz28_3
    try clear hfz30_0
    try clear hfz30_1
    try clear hfz30_2
    try clear hfz30_3
    try clear hfz30_4
    try clear hfz32_0
    try clear hfz32_1
    try clear hfz32_2
    try clear hfz32_3
    try clear hfz32_4
    try clear hfz33_0
    try clear hfz33_1
    try clear hfz33_2
    try clear hfz33_3
    try clear hfz36_0
    try clear hfz36_1
    try clear hfz36_2
    try clear hfz36_3
    try clear hfz38_0
    try clear hfz38_1
    try clear hfz38_2
    try clear hfz38_3
    try clear hfz38_4
    try clear hfz40_0
    try clear hfz40_1
    try clear hfz40_2
    try clear hfz40_3
    try clear hfz40_4
    try clear hfz41_0
    try clear hfz41_1
    try clear hfz41_2
    try clear hfz41_3
    try clear hfz43_0
    try clear hfz43_1
    try clear hfz43_2
    try clear hfz43_3
    try clear hfz45_0
    try clear hfz45_1
    try clear hfz45_2
    try clear hfz45_3
    try clear hfz45_4
    try clear hfz47_0
    try clear hfz47_1
    try clear hfz47_2
    try clear hfz47_3
    try clear hfz47_4
    try clear hfz48_0
    try clear hfz48_1
    try clear hfz48_2
    try clear hfz48_3
    try clear hfz50_0
    try clear hfz50_1
    try clear hfz50_2
    try clear hfz50_3
    try clear hfz52_0
    try clear hfz52_1
    try clear hfz52_2
    try clear hfz52_3
    try clear hfz52_4
    try clear hfz55_0
    try clear hfz55_1
    try clear hfz55_2
    try clear hfz55_3
    obtain ⟨kq, x49_4, rfl, HA, HJ4, BK285, BK286, HB⟩ := hcut
    cases kq with
    | zero => exact absurd HA.out (by simp [stolonlaw10_QuerierBack.j0])
    | succ kj4 =>
      have H := HA.out
      clear HA
      simp only [stolonlaw10_QuerierBack.j0] at H
      by_cases c57 : x49_4 = true
      · subst c57
        have H1 : (some t287) = some r := by rw [if_pos rfl] at H; exact H
        clear H
        have H := H1
        clear H1
        obtain rfl := Option.some.inj H
        go_wp2
        go_ret
        exact ⟨by first | rfl | (simp [errW_none, errW_some] <;> rfl) | (simp [*, errW_none, errW_some] <;> rfl), by repeat (first | (with_reducible first | exact HB.out | apply below_alloc | apply pw_below_drewN | apply below_drew1 | refine below_set ?_ GE285.out | refine below_set ?_ GE286.out) | exact HB.out)⟩
      · replace c57 := Bool.eq_false_iff.mpr c57
        subst c57
        have H1 : ((querier_Hear.f a0_0 a0_1 a0_2 a0_3 a1_0 a1_1 a1_2 a1_3 a1_4 a2).bind fun bt290 => (stolonlaw10_QuerierBack.l0 kj4 a2 t287 0 a0_0 a0_1 a0_2 a0_3 bt290.1 bt290.2.1 bt290.2.2.1 bt290.2.2.2.1 bt290.2.2.2.2)) = some r := by rw [if_neg (show ¬ (false = true) by decide)] at H; exact H
        clear H
        have H := H1
        clear H1
        replace H := Option.bind_eq_some_iff.mp H
        obtain ⟨⟨t290, t291, t292, t293, t294⟩, A580, H⟩ := H
        replace H : (stolonlaw10_QuerierBack.l0 kj4 a2 t287 0 a0_0 a0_1 a0_2 a0_3 t290 t291 t292 t293 t294) = some r := H
        have A58 := Aside0.mk A580
        clear A580
        have H' := Aside0.mk H
        clear H
        have hnb59 := NB285_286.out
        have hnc59 := NB286_285.out
        have hcz60_0 : wc.cell? ⟨gb285, 0, none⟩ = some (.int .i64 a0_0) := (blk_cell BK285.out 0).trans rfl
        have hcz60_1 : wc.cell? ⟨gb285, 1, none⟩ = some (.int .i64 a0_1) := (blk_cell BK285.out 1).trans rfl
        have hcz60_2 : wc.cell? ⟨gb285, 2, none⟩ = some (.int .i64 a0_2) := (blk_cell BK285.out 2).trans rfl
        have hcz60_3 : wc.cell? ⟨gb285, 3, none⟩ = some (.int .i64 a0_3) := (blk_cell BK285.out 3).trans rfl
        have hfz60_0 := blk_frozen BK285.out 0
        have hfz60_1 := blk_frozen BK285.out 1
        have hfz60_2 := blk_frozen BK285.out 2
        have hfz60_3 := blk_frozen BK285.out 3
        have hcz61_0 : wc.cell? ⟨gb286, 0, none⟩ = some (.int .u32 a1_0) := (blk_cell BK286.out 0).trans rfl
        have hcz61_1 : wc.cell? ⟨gb286, 1, none⟩ = some (.int .u32 a1_1) := (blk_cell BK286.out 1).trans rfl
        have hcz61_2 : wc.cell? ⟨gb286, 2, none⟩ = some (.int .i64 a1_2) := (blk_cell BK286.out 2).trans rfl
        have hcz61_3 : wc.cell? ⟨gb286, 3, none⟩ = some (.int .i64 a1_3) := (blk_cell BK286.out 3).trans rfl
        have hcz61_4 : wc.cell? ⟨gb286, 4, none⟩ = some (.int .i64 a1_4) := (blk_cell BK286.out 4).trans rfl
        have hfz61_0 := blk_frozen BK286.out 0
        have hfz61_1 := blk_frozen BK286.out 1
        have hfz61_2 := blk_frozen BK286.out 2
        have hfz61_3 := blk_frozen BK286.out 3
        have hfz61_4 := blk_frozen BK286.out 4
        go_wp2_with (first | ((with_reducible refine gate_callee (f := 19) rfl ?_); refine goesL_ (some 54) rfl rfl Try.func19 (by kernel_rfl) rfl #[.agg #[.int .i64 a0_0, .int .i64 a0_1, .int .i64 a0_2, .int .i64 a0_3], .agg #[.int .u32 a1_0, .int .u32 a1_1, .int .i64 a1_2, .int .i64 a1_3, .int .i64 a1_4], .int .u32 a2] rfl (by (try simp only [List.map_toArray, List.map_cons, List.map_nil]); first | done | rfl | (simp only [List.length_drop, List.length_take]; rfl)) ?_; (with_reducible refine (querier_Hear.calls a0_0 a0_1 a0_2 a0_3 a1_0 a1_1 a1_2 a1_3 a1_4 a2 t290 t291 t292 t293 t294 _ A58.out).mono ?_); rintro e w62 ⟨rfl, hb⟩; refine ⟨_, rfl, ?_⟩; have n0_ := Aside0.mk (blk_below (g := gb285) (o := .cells #[.int .i64 a0_0, .int .i64 a0_1, .int .i64 a0_2, .int .i64 a0_3] 23 (0, 0)) (by (with_reducible repeat (first | refine blk_drewN ?_ _ | refine blk_drew ?_ | refine blk_alloc ?_ _)); exact BK285.out) hb); have n1_ := Aside0.mk (blk_below (g := gb286) (o := .cells #[.int .u32 a1_0, .int .u32 a1_1, .int .i64 a1_2, .int .i64 a1_3, .int .i64 a1_4] 27 (0, 0)) (by (with_reducible repeat (first | refine blk_drewN ?_ _ | refine blk_drew ?_ | refine blk_alloc ?_ _)); exact BK286.out) hb); have n2_ := Aside0.mk (below_step (by repeat (first | (with_reducible first | exact HB.out | apply below_alloc | apply pw_below_drewN | apply below_drew1 | refine below_set ?_ GE285.out | refine below_set ?_ GE286.out) | exact HB.out)) hb); clear BK285; clear BK286; clear HB; have BK285 := n0_; have BK286 := n1_; have HB := n2_; clear n0_ n1_ n2_; (try clear hb); (try clear hb2); (try clear hk); (try clear hi); have hcz63_0 : w62.cell? ⟨gb286, 0, none⟩ = some (.int .u32 a1_0) := (blk_cell BK286.out 0).trans rfl; have hcz63_1 : w62.cell? ⟨gb286, 1, none⟩ = some (.int .u32 a1_1) := (blk_cell BK286.out 1).trans rfl; have hcz63_2 : w62.cell? ⟨gb286, 2, none⟩ = some (.int .i64 a1_2) := (blk_cell BK286.out 2).trans rfl; have hcz63_3 : w62.cell? ⟨gb286, 3, none⟩ = some (.int .i64 a1_3) := (blk_cell BK286.out 3).trans rfl; have hcz63_4 : w62.cell? ⟨gb286, 4, none⟩ = some (.int .i64 a1_4) := (blk_cell BK286.out 4).trans rfl; have hfz63_0 := blk_frozen BK286.out 0; have hfz63_1 := blk_frozen BK286.out 1; have hfz63_2 := blk_frozen BK286.out 2; have hfz63_3 := blk_frozen BK286.out 3; have hfz63_4 := blk_frozen BK286.out 4))
        go_loopg [8] kj4 (fun kq v8 w' => ∃ (x8_2 : Int) (x287000_2 : Int) (x287001_2 : Int) (x287002_2 : Int) (x287003_2 : Int) (x287004_2 : Int), v8 = .int .i64 x8_2 ∧ Aside0 (stolonlaw10_QuerierBack.l0 kq a2 t287 x8_2 a0_0 a0_1 a0_2 a0_3 x287000_2 x287001_2 x287002_2 x287003_2 x287004_2 = some r) ∧ Aside0 (kq ≤ kj4) ∧ Aside0 (w'.heap[gb285]? = some (.cells #[.int .i64 a0_0, .int .i64 a0_1, .int .i64 a0_2, .int .i64 a0_3] 23 (0, 0))) ∧ Aside0 (w'.heap[gb286]? = some (.cells #[.int .u32 x287000_2, .int .u32 x287001_2, .int .i64 x287002_2, .int .i64 x287003_2, .int .i64 x287004_2] 27 (0, 0))) ∧ Aside0 (Below w.heap.size w w'))
        case atStart => exact ⟨(0), (t290), (t291), (t292), (t293), (t294), (by first | rfl | (simp; done) | (simp [*]; done)), H', ⟨Nat.le_refl _⟩, ⟨by (with_reducible repeat (first | refine blk_drewN ?_ _ | refine blk_drew ?_ | refine blk_alloc ?_ _)); refine blk_far ?_ NB285_286.out _; (with_reducible repeat (first | refine blk_drewN ?_ _ | refine blk_drew ?_ | refine blk_alloc ?_ _)); refine blk_far ?_ NB285_286.out _; (with_reducible repeat (first | refine blk_drewN ?_ _ | refine blk_drew ?_ | refine blk_alloc ?_ _)); refine blk_far ?_ NB285_286.out _; (with_reducible repeat (first | refine blk_drewN ?_ _ | refine blk_drew ?_ | refine blk_alloc ?_ _)); refine blk_far ?_ NB285_286.out _; (with_reducible repeat (first | refine blk_drewN ?_ _ | refine blk_drew ?_ | refine blk_alloc ?_ _)); refine blk_far ?_ NB285_286.out _; (with_reducible repeat (first | refine blk_drewN ?_ _ | refine blk_drew ?_ | refine blk_alloc ?_ _)); exact BK285.out⟩, ⟨by (with_reducible repeat (first | refine blk_drewN ?_ _ | refine blk_drew ?_ | refine blk_alloc ?_ _)); refine blk_put (cs := #[.int .u32 t290, .int .u32 t291, .int .i64 t292, .int .i64 t293, .int .i64 a1_4]) ?_ 4 _ rfl; (with_reducible repeat (first | refine blk_drewN ?_ _ | refine blk_drew ?_ | refine blk_alloc ?_ _)); refine blk_put (cs := #[.int .u32 t290, .int .u32 t291, .int .i64 t292, .int .i64 a1_3, .int .i64 a1_4]) ?_ 3 _ rfl; (with_reducible repeat (first | refine blk_drewN ?_ _ | refine blk_drew ?_ | refine blk_alloc ?_ _)); refine blk_put (cs := #[.int .u32 t290, .int .u32 t291, .int .i64 a1_2, .int .i64 a1_3, .int .i64 a1_4]) ?_ 2 _ rfl; (with_reducible repeat (first | refine blk_drewN ?_ _ | refine blk_drew ?_ | refine blk_alloc ?_ _)); refine blk_put (cs := #[.int .u32 t290, .int .u32 a1_1, .int .i64 a1_2, .int .i64 a1_3, .int .i64 a1_4]) ?_ 1 _ rfl; (with_reducible repeat (first | refine blk_drewN ?_ _ | refine blk_drew ?_ | refine blk_alloc ?_ _)); refine blk_put (cs := #[.int .u32 a1_0, .int .u32 a1_1, .int .i64 a1_2, .int .i64 a1_3, .int .i64 a1_4]) ?_ 0 _ rfl; (with_reducible repeat (first | refine blk_drewN ?_ _ | refine blk_drew ?_ | refine blk_alloc ?_ _)); exact BK286.out⟩, ⟨by repeat (first | (with_reducible first | exact HB.out | apply below_alloc | apply pw_below_drewN | apply below_drew1 | refine below_set ?_ GE285.out | refine below_set ?_ GE286.out) | exact HB.out)⟩⟩
        case round =>
          clear H'
          try clear c1
          try clear c2
          try clear p2
          try clear c3
          try clear c4
          try clear c5
          try clear c7
          try clear c9
          try clear c10
          try clear c12
          try clear c13
          try clear c13b0
          try clear c13b1
          try clear c14
          try clear c19
          try clear c19b0
          try clear c20
          try clear c26
          try clear c26b0
          try clear c27
          try clear c34
          try clear c34b0
          try clear c34b1
          try clear c35
          try clear c42
          try clear c49
          try clear c54
          try clear c57
          try clear c59
          try clear hcz15_0
          try clear hcz15_1
          try clear hcz15_2
          try clear hcz15_3
          try clear hcz17_0
          try clear hcz17_1
          try clear hcz17_2
          try clear hcz17_3
          try clear hcz17_4
          try clear hcz21_0
          try clear hcz21_1
          try clear hcz21_2
          try clear hcz21_3
          try clear hcz23_0
          try clear hcz23_1
          try clear hcz23_2
          try clear hcz23_3
          try clear hcz23_4
          try clear hcz25_0
          try clear hcz25_1
          try clear hcz25_2
          try clear hcz25_3
          try clear hcz25_4
          try clear hcz28_0
          try clear hcz28_1
          try clear hcz28_2
          try clear hcz28_3
          try clear hcz30_0
          try clear hcz30_1
          try clear hcz30_2
          try clear hcz30_3
          try clear hcz30_4
          try clear hcz32_0
          try clear hcz32_1
          try clear hcz32_2
          try clear hcz32_3
          try clear hcz32_4
          try clear hcz33_0
          try clear hcz33_1
          try clear hcz33_2
          try clear hcz33_3
          try clear hcz36_0
          try clear hcz36_1
          try clear hcz36_2
          try clear hcz36_3
          try clear hcz38_0
          try clear hcz38_1
          try clear hcz38_2
          try clear hcz38_3
          try clear hcz38_4
          try clear hcz40_0
          try clear hcz40_1
          try clear hcz40_2
          try clear hcz40_3
          try clear hcz40_4
          try clear hcz41_0
          try clear hcz41_1
          try clear hcz41_2
          try clear hcz41_3
          try clear hcz43_0
          try clear hcz43_1
          try clear hcz43_2
          try clear hcz43_3
          try clear hcz45_0
          try clear hcz45_1
          try clear hcz45_2
          try clear hcz45_3
          try clear hcz45_4
          try clear hcz47_0
          try clear hcz47_1
          try clear hcz47_2
          try clear hcz47_3
          try clear hcz47_4
          try clear hcz48_0
          try clear hcz48_1
          try clear hcz48_2
          try clear hcz48_3
          try clear hcz50_0
          try clear hcz50_1
          try clear hcz50_2
          try clear hcz50_3
          try clear hcz52_0
          try clear hcz52_1
          try clear hcz52_2
          try clear hcz52_3
          try clear hcz52_4
          try clear hcz55_0
          try clear hcz55_1
          try clear hcz55_2
          try clear hcz55_3
          try clear hcz60_0
          try clear hcz60_1
          try clear hcz60_2
          try clear hcz60_3
          try clear hcz61_0
          try clear hcz61_1
          try clear hcz61_2
          try clear hcz61_3
          try clear hcz61_4
          try clear hcz63_0
          try clear hcz63_1
          try clear hcz63_2
          try clear hcz63_3
          try clear hcz63_4
          try clear hfz15_0
          try clear hfz15_1
          try clear hfz15_2
          try clear hfz15_3
          try clear hfz17_0
          try clear hfz17_1
          try clear hfz17_2
          try clear hfz17_3
          try clear hfz17_4
          try clear hfz21_0
          try clear hfz21_1
          try clear hfz21_2
          try clear hfz21_3
          try clear hfz23_0
          try clear hfz23_1
          try clear hfz23_2
          try clear hfz23_3
          try clear hfz23_4
          try clear hfz25_0
          try clear hfz25_1
          try clear hfz25_2
          try clear hfz25_3
          try clear hfz25_4
          try clear hfz28_0
          try clear hfz28_1
          try clear hfz28_2
          try clear hfz28_3
          try clear hfz30_0
          try clear hfz30_1
          try clear hfz30_2
          try clear hfz30_3
          try clear hfz30_4
          try clear hfz32_0
          try clear hfz32_1
          try clear hfz32_2
          try clear hfz32_3
          try clear hfz32_4
          try clear hfz33_0
          try clear hfz33_1
          try clear hfz33_2
          try clear hfz33_3
          try clear hfz36_0
          try clear hfz36_1
          try clear hfz36_2
          try clear hfz36_3
          try clear hfz38_0
          try clear hfz38_1
          try clear hfz38_2
          try clear hfz38_3
          try clear hfz38_4
          try clear hfz40_0
          try clear hfz40_1
          try clear hfz40_2
          try clear hfz40_3
          try clear hfz40_4
          try clear hfz41_0
          try clear hfz41_1
          try clear hfz41_2
          try clear hfz41_3
          try clear hfz43_0
          try clear hfz43_1
          try clear hfz43_2
          try clear hfz43_3
          try clear hfz45_0
          try clear hfz45_1
          try clear hfz45_2
          try clear hfz45_3
          try clear hfz45_4
          try clear hfz47_0
          try clear hfz47_1
          try clear hfz47_2
          try clear hfz47_3
          try clear hfz47_4
          try clear hfz48_0
          try clear hfz48_1
          try clear hfz48_2
          try clear hfz48_3
          try clear hfz50_0
          try clear hfz50_1
          try clear hfz50_2
          try clear hfz50_3
          try clear hfz52_0
          try clear hfz52_1
          try clear hfz52_2
          try clear hfz52_3
          try clear hfz52_4
          try clear hfz55_0
          try clear hfz55_1
          try clear hfz55_2
          try clear hfz55_3
          try clear hfz60_0
          try clear hfz60_1
          try clear hfz60_2
          try clear hfz60_3
          try clear hfz61_0
          try clear hfz61_1
          try clear hfz61_2
          try clear hfz61_3
          try clear hfz61_4
          try clear hfz63_0
          try clear hfz63_1
          try clear hfz63_2
          try clear hfz63_3
          try clear hfz63_4
          try clear p2
          obtain ⟨x8_2, x287000_2, x287001_2, x287002_2, x287003_2, x287004_2, rfl, HA, HK2, BK285, BK286, HB⟩ := hrel
          cases gk with
          | zero => exact absurd HA.out (by simp [stolonlaw10_QuerierBack.l0])
          | succ k2 =>
            have H := HA.out
            clear HA
            simp only [stolonlaw10_QuerierBack.l0] at H
            by_cases c64 : x8_2 < a0_3
            · rw [if_pos c64] at H
              have c64b0 : decide (x8_2 < a0_3) = true := decide_eq_true c64
              clear c64
              have HC65 := Aside0.mk H
              clear H
              have hnb66 := NB285_286.out
              have hnc66 := NB286_285.out
              have hcz67_0 : wr.cell? ⟨gb285, 0, none⟩ = some (.int .i64 a0_0) := (blk_cell BK285.out 0).trans rfl
              have hcz67_1 : wr.cell? ⟨gb285, 1, none⟩ = some (.int .i64 a0_1) := (blk_cell BK285.out 1).trans rfl
              have hcz67_2 : wr.cell? ⟨gb285, 2, none⟩ = some (.int .i64 a0_2) := (blk_cell BK285.out 2).trans rfl
              have hcz67_3 : wr.cell? ⟨gb285, 3, none⟩ = some (.int .i64 a0_3) := (blk_cell BK285.out 3).trans rfl
              have hfz67_0 := blk_frozen BK285.out 0
              have hfz67_1 := blk_frozen BK285.out 1
              have hfz67_2 := blk_frozen BK285.out 2
              have hfz67_3 := blk_frozen BK285.out 3
              go_upto_region 8 with (fail)
              go_cut [68] (fun v68 wc => ∃ (kq : Nat) (x68_64 : Bool), v68 = .bool x68_64 ∧ Aside0 (stolonlaw10_QuerierBack.j2 kq a2 t287 x8_2 x68_64 a0_0 a0_1 a0_2 a0_3 x287000_2 x287001_2 x287002_2 x287003_2 x287004_2 = some r) ∧ Aside0 (kq ≤ k2) ∧ Aside0 (wc.heap[gb285]? = some (.cells #[.int .i64 a0_0, .int .i64 a0_1, .int .i64 a0_2, .int .i64 a0_3] 23 (0, 0))) ∧ Aside0 (wc.heap[gb286]? = some (.cells #[.int .u32 x287000_2, .int .u32 x287001_2, .int .i64 x287002_2, .int .i64 x287003_2, .int .i64 x287004_2] 27 (0, 0))) ∧ Aside0 (Below w.heap.size w wc))
              case first =>
                have H := HC65.out
                clear HC65
                replace H := Option.bind_eq_some_iff.mp H
                obtain ⟨t310, A680, H⟩ := H
                replace H : (if t310 = true then (stolonlaw10_QuerierBack.j2 k2 a2 t287 x8_2 true a0_0 a0_1 a0_2 a0_3 x287000_2 x287001_2 x287002_2 x287003_2 x287004_2) else (stolonlaw10_QuerierBack.j2 k2 a2 t287 x8_2 (x287001_2 != a2) a0_0 a0_1 a0_2 a0_3 x287000_2 x287001_2 x287002_2 x287003_2 x287004_2)) = some r := H
                have A68 := Aside0.mk A680
                clear A680
                by_cases c69 : t310 = true
                · subst c69
                  have H1 : (stolonlaw10_QuerierBack.j2 k2 a2 t287 x8_2 true a0_0 a0_1 a0_2 a0_3 x287000_2 x287001_2 x287002_2 x287003_2 x287004_2) = some r := by rw [if_pos rfl] at H; exact H
                  clear H
                  have H := H1
                  clear H1
                  cases k2 with
                  | zero => exact absurd H (by simp [stolonlaw10_QuerierBack.j2])
                  | succ k_ =>
                    rw [stolonlaw10_QuerierBack.j2] at H
                    exact absurd ((Option.some.inj ((if_pos rfl).symm.trans H)).trans hTrue.out) (by simp)
                · replace c69 := Bool.eq_false_iff.mpr c69
                  subst c69
                  have H1 : (stolonlaw10_QuerierBack.j2 k2 a2 t287 x8_2 (x287001_2 != a2) a0_0 a0_1 a0_2 a0_3 x287000_2 x287001_2 x287002_2 x287003_2 x287004_2) = some r := by rw [if_neg (show ¬ (false = true) by decide)] at H; exact H
                  clear H
                  have H := H1
                  clear H1
                  have H' := Aside0.mk H
                  clear H
                  have hnb70 := NB286_285.out
                  have hnc70 := NB285_286.out
                  have hcz71_0 : wr.cell? ⟨gb286, 0, none⟩ = some (.int .u32 x287000_2) := (blk_cell BK286.out 0).trans rfl
                  have hcz71_1 : wr.cell? ⟨gb286, 1, none⟩ = some (.int .u32 x287001_2) := (blk_cell BK286.out 1).trans rfl
                  have hcz71_2 : wr.cell? ⟨gb286, 2, none⟩ = some (.int .i64 x287002_2) := (blk_cell BK286.out 2).trans rfl
                  have hcz71_3 : wr.cell? ⟨gb286, 3, none⟩ = some (.int .i64 x287003_2) := (blk_cell BK286.out 3).trans rfl
                  have hcz71_4 : wr.cell? ⟨gb286, 4, none⟩ = some (.int .i64 x287004_2) := (blk_cell BK286.out 4).trans rfl
                  have hfz71_0 := blk_frozen BK286.out 0
                  have hfz71_1 := blk_frozen BK286.out 1
                  have hfz71_2 := blk_frozen BK286.out 2
                  have hfz71_3 := blk_frozen BK286.out 3
                  have hfz71_4 := blk_frozen BK286.out 4
                  go_wp2_with (first | ((with_reducible refine gate_callee (f := 16) rfl ?_); refine goesL_ (some 62) rfl rfl Try.func16 (by kernel_rfl) rfl #[.agg #[.int .u32 x287000_2, .int .u32 x287001_2, .int .i64 x287002_2, .int .i64 x287003_2, .int .i64 x287004_2]] rfl (by (try simp only [List.map_toArray, List.map_cons, List.map_nil]); first | done | rfl | (simp only [List.length_drop, List.length_take]; rfl)) ?_; (with_reducible refine (querier_Asks.calls x287000_2 x287001_2 x287002_2 x287003_2 x287004_2 false _ A68.out).mono ?_); rintro e w72 ⟨rfl, hb⟩; refine ⟨_, rfl, ?_⟩; have n0_ := Aside0.mk (blk_below (g := gb285) (o := .cells #[.int .i64 a0_0, .int .i64 a0_1, .int .i64 a0_2, .int .i64 a0_3] 23 (0, 0)) (by (with_reducible repeat (first | refine blk_drewN ?_ _ | refine blk_drew ?_ | refine blk_alloc ?_ _)); exact BK285.out) hb); have n1_ := Aside0.mk (blk_below (g := gb286) (o := .cells #[.int .u32 x287000_2, .int .u32 x287001_2, .int .i64 x287002_2, .int .i64 x287003_2, .int .i64 x287004_2] 27 (0, 0)) (by (with_reducible repeat (first | refine blk_drewN ?_ _ | refine blk_drew ?_ | refine blk_alloc ?_ _)); exact BK286.out) hb); have n2_ := Aside0.mk (below_step (by repeat (first | (with_reducible first | exact HB.out | apply below_alloc | apply pw_below_drewN | apply below_drew1 | refine below_set ?_ GE285.out | refine below_set ?_ GE286.out) | exact HB.out)) hb); clear BK285; clear BK286; clear HB; have BK285 := n0_; have BK286 := n1_; have HB := n2_; clear n0_ n1_ n2_; (try clear hb); (try clear hb2); (try clear hk); (try clear hi); have hcz73_0 : w72.cell? ⟨gb286, 0, none⟩ = some (.int .u32 x287000_2) := (blk_cell BK286.out 0).trans rfl; have hcz73_1 : w72.cell? ⟨gb286, 1, none⟩ = some (.int .u32 x287001_2) := (blk_cell BK286.out 1).trans rfl; have hcz73_2 : w72.cell? ⟨gb286, 2, none⟩ = some (.int .i64 x287002_2) := (blk_cell BK286.out 2).trans rfl; have hcz73_3 : w72.cell? ⟨gb286, 3, none⟩ = some (.int .i64 x287003_2) := (blk_cell BK286.out 3).trans rfl; have hcz73_4 : w72.cell? ⟨gb286, 4, none⟩ = some (.int .i64 x287004_2) := (blk_cell BK286.out 4).trans rfl; have hfz73_0 := blk_frozen BK286.out 0; have hfz73_1 := blk_frozen BK286.out 1; have hfz73_2 := blk_frozen BK286.out 2; have hfz73_3 := blk_frozen BK286.out 3; have hfz73_4 := blk_frozen BK286.out 4))
                  go_meet
                  case rel => exact ⟨_, ((x287001_2 != a2)), (by first | rfl | (simp; done) | (simp [*]; done)), H', ⟨by have := HJ4.out; have := HK2.out; first | omega | exact Nat.le_refl _⟩, ⟨by (with_reducible repeat (first | refine blk_drewN ?_ _ | refine blk_drew ?_ | refine blk_alloc ?_ _)); exact BK285.out⟩, ⟨by (with_reducible repeat (first | refine blk_drewN ?_ _ | refine blk_drew ?_ | refine blk_alloc ?_ _)); exact BK286.out⟩, ⟨by repeat (first | (with_reducible first | exact HB.out | apply below_alloc | apply pw_below_drewN | apply below_drew1 | refine below_set ?_ GE285.out | refine below_set ?_ GE286.out) | exact HB.out)⟩⟩
              case rest =>
                clear HC65
                try clear c1
                try clear c2
                try clear p2
                try clear c3
                try clear c4
                try clear c5
                try clear c6
                try clear c7
                try clear c9
                try clear c10
                try clear c12
                try clear c13
                try clear c13b0
                try clear c13b1
                try clear c14
                try clear c16
                try clear c19
                try clear c19b0
                try clear c20
                try clear c26
                try clear c26b0
                try clear c27
                try clear c34
                try clear c34b0
                try clear c34b1
                try clear c35
                try clear c42
                try clear c49
                try clear c54
                try clear c57
                try clear c59
                try clear c64
                try clear c64b0
                try clear c66
                try clear c69
                try clear c70
                try clear hcz15_0
                try clear hcz15_1
                try clear hcz15_2
                try clear hcz15_3
                try clear hcz17_0
                try clear hcz17_1
                try clear hcz17_2
                try clear hcz17_3
                try clear hcz17_4
                try clear hcz21_0
                try clear hcz21_1
                try clear hcz21_2
                try clear hcz21_3
                try clear hcz23_0
                try clear hcz23_1
                try clear hcz23_2
                try clear hcz23_3
                try clear hcz23_4
                try clear hcz25_0
                try clear hcz25_1
                try clear hcz25_2
                try clear hcz25_3
                try clear hcz25_4
                try clear hcz28_0
                try clear hcz28_1
                try clear hcz28_2
                try clear hcz28_3
                try clear hcz30_0
                try clear hcz30_1
                try clear hcz30_2
                try clear hcz30_3
                try clear hcz30_4
                try clear hcz32_0
                try clear hcz32_1
                try clear hcz32_2
                try clear hcz32_3
                try clear hcz32_4
                try clear hcz33_0
                try clear hcz33_1
                try clear hcz33_2
                try clear hcz33_3
                try clear hcz36_0
                try clear hcz36_1
                try clear hcz36_2
                try clear hcz36_3
                try clear hcz38_0
                try clear hcz38_1
                try clear hcz38_2
                try clear hcz38_3
                try clear hcz38_4
                try clear hcz40_0
                try clear hcz40_1
                try clear hcz40_2
                try clear hcz40_3
                try clear hcz40_4
                try clear hcz41_0
                try clear hcz41_1
                try clear hcz41_2
                try clear hcz41_3
                try clear hcz43_0
                try clear hcz43_1
                try clear hcz43_2
                try clear hcz43_3
                try clear hcz45_0
                try clear hcz45_1
                try clear hcz45_2
                try clear hcz45_3
                try clear hcz45_4
                try clear hcz47_0
                try clear hcz47_1
                try clear hcz47_2
                try clear hcz47_3
                try clear hcz47_4
                try clear hcz48_0
                try clear hcz48_1
                try clear hcz48_2
                try clear hcz48_3
                try clear hcz50_0
                try clear hcz50_1
                try clear hcz50_2
                try clear hcz50_3
                try clear hcz52_0
                try clear hcz52_1
                try clear hcz52_2
                try clear hcz52_3
                try clear hcz52_4
                try clear hcz55_0
                try clear hcz55_1
                try clear hcz55_2
                try clear hcz55_3
                try clear hcz60_0
                try clear hcz60_1
                try clear hcz60_2
                try clear hcz60_3
                try clear hcz61_0
                try clear hcz61_1
                try clear hcz61_2
                try clear hcz61_3
                try clear hcz61_4
                try clear hcz63_0
                try clear hcz63_1
                try clear hcz63_2
                try clear hcz63_3
                try clear hcz63_4
                try clear hcz67_0
                try clear hcz67_1
                try clear hcz67_2
                try clear hcz67_3
                try clear hcz71_0
                try clear hcz71_1
                try clear hcz71_2
                try clear hcz71_3
                try clear hcz71_4
                try clear hcz73_0
                try clear hcz73_1
                try clear hcz73_2
                try clear hcz73_3
                try clear hcz73_4
                try clear hfz15_0
                try clear hfz15_1
                try clear hfz15_2
                try clear hfz15_3
                try clear hfz17_0
                try clear hfz17_1
                try clear hfz17_2
                try clear hfz17_3
                try clear hfz17_4
                try clear hfz21_0
                try clear hfz21_1
                try clear hfz21_2
                try clear hfz21_3
                try clear hfz23_0
                try clear hfz23_1
                try clear hfz23_2
                try clear hfz23_3
                try clear hfz23_4
                try clear hfz25_0
                try clear hfz25_1
                try clear hfz25_2
                try clear hfz25_3
                try clear hfz25_4
                try clear hfz28_0
                try clear hfz28_1
                try clear hfz28_2
                try clear hfz28_3
                try clear hfz30_0
                try clear hfz30_1
                try clear hfz30_2
                try clear hfz30_3
                try clear hfz30_4
                try clear hfz32_0
                try clear hfz32_1
                try clear hfz32_2
                try clear hfz32_3
                try clear hfz32_4
                try clear hfz33_0
                try clear hfz33_1
                try clear hfz33_2
                try clear hfz33_3
                try clear hfz36_0
                try clear hfz36_1
                try clear hfz36_2
                try clear hfz36_3
                try clear hfz38_0
                try clear hfz38_1
                try clear hfz38_2
                try clear hfz38_3
                try clear hfz38_4
                try clear hfz40_0
                try clear hfz40_1
                try clear hfz40_2
                try clear hfz40_3
                try clear hfz40_4
                try clear hfz41_0
                try clear hfz41_1
                try clear hfz41_2
                try clear hfz41_3
                try clear hfz43_0
                try clear hfz43_1
                try clear hfz43_2
                try clear hfz43_3
                try clear hfz45_0
                try clear hfz45_1
                try clear hfz45_2
                try clear hfz45_3
                try clear hfz45_4
                try clear hfz47_0
                try clear hfz47_1
                try clear hfz47_2
                try clear hfz47_3
                try clear hfz47_4
                try clear hfz48_0
                try clear hfz48_1
                try clear hfz48_2
                try clear hfz48_3
                try clear hfz50_0
                try clear hfz50_1
                try clear hfz50_2
                try clear hfz50_3
                try clear hfz52_0
                try clear hfz52_1
                try clear hfz52_2
                try clear hfz52_3
                try clear hfz52_4
                try clear hfz55_0
                try clear hfz55_1
                try clear hfz55_2
                try clear hfz55_3
                try clear hfz60_0
                try clear hfz60_1
                try clear hfz60_2
                try clear hfz60_3
                try clear hfz61_0
                try clear hfz61_1
                try clear hfz61_2
                try clear hfz61_3
                try clear hfz61_4
                try clear hfz63_0
                try clear hfz63_1
                try clear hfz63_2
                try clear hfz63_3
                try clear hfz63_4
                try clear hfz67_0
                try clear hfz67_1
                try clear hfz67_2
                try clear hfz67_3
                try clear hfz71_0
                try clear hfz71_1
                try clear hfz71_2
                try clear hfz71_3
                try clear hfz71_4
                try clear hfz73_0
                try clear hfz73_1
                try clear hfz73_2
                try clear hfz73_3
                try clear hfz73_4
                try clear p2
                obtain ⟨kq, x68_64, rfl, HA, HJ64, BK285, BK286, HB⟩ := hcut
                cases kq with
                | zero => exact absurd HA.out (by simp [stolonlaw10_QuerierBack.j2])
                | succ kj64 =>
                  have H := HA.out
                  clear HA
                  simp only [stolonlaw10_QuerierBack.j2] at H
                  by_cases c74 : x68_64 = true
                  · subst c74
                    have H1 : (some false) = some r := by rw [if_pos rfl] at H; exact H
                    clear H
                    have H := H1
                    clear H1
                    exact absurd ((Option.some.inj H).trans hTrue.out) (by simp)
                  · replace c74 := Bool.eq_false_iff.mpr c74
                    subst c74
                    have H1 : ((querier_Tick.f a0_0 a0_1 a0_2 a0_3 x287000_2 x287001_2 x287002_2 x287003_2 x287004_2).bind fun bt311 => (if bt311.2.2.2.2.2 = true then (some false) else (stolonlaw10_QuerierBack.l0 kj64 a2 t287 (wrap64 (x8_2 + 1)) a0_0 a0_1 a0_2 a0_3 bt311.1 bt311.2.1 bt311.2.2.1 bt311.2.2.2.1 bt311.2.2.2.2.1))) = some r := by rw [if_neg (show ¬ (false = true) by decide)] at H; exact H
                    clear H
                    have H := H1
                    clear H1
                    replace H := Option.bind_eq_some_iff.mp H
                    obtain ⟨⟨t311, t312, t313, t314, t315, t316⟩, A750, H⟩ := H
                    replace H : (if t316 = true then (some false) else (stolonlaw10_QuerierBack.l0 kj64 a2 t287 (wrap64 (x8_2 + 1)) a0_0 a0_1 a0_2 a0_3 t311 t312 t313 t314 t315)) = some r := H
                    have A75 := Aside0.mk A750
                    clear A750
                    by_cases c76 : t316 = true
                    · subst c76
                      have H1 : (some false) = some r := by rw [if_pos rfl] at H; exact H
                      clear H
                      have H := H1
                      clear H1
                      exact absurd ((Option.some.inj H).trans hTrue.out) (by simp)
                    · replace c76 := Bool.eq_false_iff.mpr c76
                      subst c76
                      have H1 : (stolonlaw10_QuerierBack.l0 kj64 a2 t287 (wrap64 (x8_2 + 1)) a0_0 a0_1 a0_2 a0_3 t311 t312 t313 t314 t315) = some r := by rw [if_neg (show ¬ (false = true) by decide)] at H; exact H
                      clear H
                      have H := H1
                      clear H1
                      have H' := Aside0.mk H
                      clear H
                      have hnb77 := NB285_286.out
                      have hnc77 := NB286_285.out
                      have hcz78_0 : wc.cell? ⟨gb285, 0, none⟩ = some (.int .i64 a0_0) := (blk_cell BK285.out 0).trans rfl
                      have hcz78_1 : wc.cell? ⟨gb285, 1, none⟩ = some (.int .i64 a0_1) := (blk_cell BK285.out 1).trans rfl
                      have hcz78_2 : wc.cell? ⟨gb285, 2, none⟩ = some (.int .i64 a0_2) := (blk_cell BK285.out 2).trans rfl
                      have hcz78_3 : wc.cell? ⟨gb285, 3, none⟩ = some (.int .i64 a0_3) := (blk_cell BK285.out 3).trans rfl
                      have hfz78_0 := blk_frozen BK285.out 0
                      have hfz78_1 := blk_frozen BK285.out 1
                      have hfz78_2 := blk_frozen BK285.out 2
                      have hfz78_3 := blk_frozen BK285.out 3
                      have hcz79_0 : wc.cell? ⟨gb286, 0, none⟩ = some (.int .u32 x287000_2) := (blk_cell BK286.out 0).trans rfl
                      have hcz79_1 : wc.cell? ⟨gb286, 1, none⟩ = some (.int .u32 x287001_2) := (blk_cell BK286.out 1).trans rfl
                      have hcz79_2 : wc.cell? ⟨gb286, 2, none⟩ = some (.int .i64 x287002_2) := (blk_cell BK286.out 2).trans rfl
                      have hcz79_3 : wc.cell? ⟨gb286, 3, none⟩ = some (.int .i64 x287003_2) := (blk_cell BK286.out 3).trans rfl
                      have hcz79_4 : wc.cell? ⟨gb286, 4, none⟩ = some (.int .i64 x287004_2) := (blk_cell BK286.out 4).trans rfl
                      have hfz79_0 := blk_frozen BK286.out 0
                      have hfz79_1 := blk_frozen BK286.out 1
                      have hfz79_2 := blk_frozen BK286.out 2
                      have hfz79_3 := blk_frozen BK286.out 3
                      have hfz79_4 := blk_frozen BK286.out 4
                      go_wp2_with (first | ((with_reducible refine gate_callee (f := 17) rfl ?_); refine goesL_ (some 72) rfl rfl Try.func17 (by kernel_rfl) rfl #[.agg #[.int .i64 a0_0, .int .i64 a0_1, .int .i64 a0_2, .int .i64 a0_3], .agg #[.int .u32 x287000_2, .int .u32 x287001_2, .int .i64 x287002_2, .int .i64 x287003_2, .int .i64 x287004_2]] rfl (by (try simp only [List.map_toArray, List.map_cons, List.map_nil]); first | done | rfl | (simp only [List.length_drop, List.length_take]; rfl)) ?_; (with_reducible refine (querier_Tick.calls a0_0 a0_1 a0_2 a0_3 x287000_2 x287001_2 x287002_2 x287003_2 x287004_2 t311 t312 t313 t314 t315 false _ A75.out).mono ?_); rintro e w80 ⟨rfl, hb⟩; refine ⟨_, rfl, ?_⟩; have n0_ := Aside0.mk (blk_below (g := gb285) (o := .cells #[.int .i64 a0_0, .int .i64 a0_1, .int .i64 a0_2, .int .i64 a0_3] 23 (0, 0)) (by (with_reducible repeat (first | refine blk_drewN ?_ _ | refine blk_drew ?_ | refine blk_alloc ?_ _)); exact BK285.out) hb); have n1_ := Aside0.mk (blk_below (g := gb286) (o := .cells #[.int .u32 x287000_2, .int .u32 x287001_2, .int .i64 x287002_2, .int .i64 x287003_2, .int .i64 x287004_2] 27 (0, 0)) (by (with_reducible repeat (first | refine blk_drewN ?_ _ | refine blk_drew ?_ | refine blk_alloc ?_ _)); exact BK286.out) hb); have n2_ := Aside0.mk (below_step (by repeat (first | (with_reducible first | exact HB.out | apply below_alloc | apply pw_below_drewN | apply below_drew1 | refine below_set ?_ GE285.out | refine below_set ?_ GE286.out) | exact HB.out)) hb); clear BK285; clear BK286; clear HB; have BK285 := n0_; have BK286 := n1_; have HB := n2_; clear n0_ n1_ n2_; (try clear hb); (try clear hb2); (try clear hk); (try clear hi)) | ((with_reducible refine gate_dst (N := 9) rfl ?_); refine box_event ?hg (N := 9) ?hd (cs := #[.int .u32 0, .int .u32 0, .int .i64 0, .int .i64 0, .int .i64 0]) (t := 27) ?hr ?_; (case hd => rfl); (case hg => rfl); (case hr => first | (go_simp; done) | (go_simp; rfl)); intro gb317 hg w81 hbox hb; have n0_ := Aside0.mk (blk_below (g := gb285) (o := .cells #[.int .i64 a0_0, .int .i64 a0_1, .int .i64 a0_2, .int .i64 a0_3] 23 (0, 0)) (by (with_reducible repeat (first | refine blk_drewN ?_ _ | refine blk_drew ?_ | refine blk_alloc ?_ _)); exact BK285.out) hb); have n1_ := Aside0.mk (blk_below (g := gb286) (o := .cells #[.int .u32 x287000_2, .int .u32 x287001_2, .int .i64 x287002_2, .int .i64 x287003_2, .int .i64 x287004_2] 27 (0, 0)) (by (with_reducible repeat (first | refine blk_drewN ?_ _ | refine blk_drew ?_ | refine blk_alloc ?_ _)); exact BK286.out) hb); have n2_ := Aside0.mk (below_step (by repeat (first | (with_reducible first | exact HB.out | apply below_alloc | apply pw_below_drewN | apply below_drew1 | refine below_set ?_ GE285.out | refine below_set ?_ GE286.out) | exact HB.out)) hb); have n3_ := Aside0.mk (hbox); have n4_ := Aside0.mk ((by rw [hg]; exact (below_size (by repeat (first | (with_reducible first | exact HB.out | apply below_alloc | apply pw_below_drewN | apply below_drew1 | refine below_set ?_ GE285.out | refine below_set ?_ GE286.out) | exact HB.out))) : w.heap.size ≤ gb317)); have n5_ := Aside0.mk ((by rw [hg]; exact (below_size (by repeat (first | (with_reducible first | exact HB.out | apply below_alloc | apply pw_below_drewN | apply below_drew1 | refine below_set ?_ GE285.out | refine below_set ?_ GE286.out) | exact HB.out))) : w.heap.size ≤ gb317)); have n6_ := Aside0.mk ((by rw [hg]; exact Nat.ne_of_lt (blk_lt (g := gb285) (o := .cells #[.int .i64 a0_0, .int .i64 a0_1, .int .i64 a0_2, .int .i64 a0_3] 23 (0, 0)) (by (with_reducible repeat (first | refine blk_drewN ?_ _ | refine blk_drew ?_ | refine blk_alloc ?_ _)); exact BK285.out)) : gb285 ≠ gb317)); have n7_ := Aside0.mk ((by rw [hg]; exact Nat.ne_of_gt (blk_lt (g := gb285) (o := .cells #[.int .i64 a0_0, .int .i64 a0_1, .int .i64 a0_2, .int .i64 a0_3] 23 (0, 0)) (by (with_reducible repeat (first | refine blk_drewN ?_ _ | refine blk_drew ?_ | refine blk_alloc ?_ _)); exact BK285.out)) : gb317 ≠ gb285)); have n8_ := Aside0.mk ((by rw [hg]; exact Nat.ne_of_lt (blk_lt (g := gb286) (o := .cells #[.int .u32 x287000_2, .int .u32 x287001_2, .int .i64 x287002_2, .int .i64 x287003_2, .int .i64 x287004_2] 27 (0, 0)) (by (with_reducible repeat (first | refine blk_drewN ?_ _ | refine blk_drew ?_ | refine blk_alloc ?_ _)); exact BK286.out)) : gb286 ≠ gb317)); have n9_ := Aside0.mk ((by rw [hg]; exact Nat.ne_of_gt (blk_lt (g := gb286) (o := .cells #[.int .u32 x287000_2, .int .u32 x287001_2, .int .i64 x287002_2, .int .i64 x287003_2, .int .i64 x287004_2] 27 (0, 0)) (by (with_reducible repeat (first | refine blk_drewN ?_ _ | refine blk_drew ?_ | refine blk_alloc ?_ _)); exact BK286.out)) : gb317 ≠ gb286)); clear BK285; clear BK286; clear HB; have BK285 := n0_; have BK286 := n1_; have HB := n2_; have BK317 := n3_; have GW317 := n4_; have GE317 := n5_; have NB285_317 := n6_; have NB317_285 := n7_; have NB286_317 := n8_; have NB317_286 := n9_; clear n0_ n1_ n2_ n3_ n4_ n5_ n6_ n7_ n8_ n9_; clear hb hbox hg; have hnb82 := NB317_285.out; have hnc82 := NB285_317.out; have hnb83 := NB317_286.out; have hnc83 := NB286_317.out; have hcz84_0 : w81.cell? ⟨gb317, 0, none⟩ = some (.int .u32 0) := (blk_cell BK317.out 0).trans rfl; have hcz84_1 : w81.cell? ⟨gb317, 1, none⟩ = some (.int .u32 0) := (blk_cell BK317.out 1).trans rfl; have hcz84_2 : w81.cell? ⟨gb317, 2, none⟩ = some (.int .i64 0) := (blk_cell BK317.out 2).trans rfl; have hcz84_3 : w81.cell? ⟨gb317, 3, none⟩ = some (.int .i64 0) := (blk_cell BK317.out 3).trans rfl; have hcz84_4 : w81.cell? ⟨gb317, 4, none⟩ = some (.int .i64 0) := (blk_cell BK317.out 4).trans rfl; have hfz84_0 := blk_frozen BK317.out 0; have hfz84_1 := blk_frozen BK317.out 1; have hfz84_2 := blk_frozen BK317.out 2; have hfz84_3 := blk_frozen BK317.out 3; have hfz84_4 := blk_frozen BK317.out 4; have hcz85_0 : w81.cell? ⟨gb286, 0, none⟩ = some (.int .u32 x287000_2) := (blk_cell BK286.out 0).trans rfl; have hcz85_1 : w81.cell? ⟨gb286, 1, none⟩ = some (.int .u32 x287001_2) := (blk_cell BK286.out 1).trans rfl; have hcz85_2 : w81.cell? ⟨gb286, 2, none⟩ = some (.int .i64 x287002_2) := (blk_cell BK286.out 2).trans rfl; have hcz85_3 : w81.cell? ⟨gb286, 3, none⟩ = some (.int .i64 x287003_2) := (blk_cell BK286.out 3).trans rfl; have hcz85_4 : w81.cell? ⟨gb286, 4, none⟩ = some (.int .i64 x287004_2) := (blk_cell BK286.out 4).trans rfl; have hfz85_0 := blk_frozen BK286.out 0; have hfz85_1 := blk_frozen BK286.out 1; have hfz85_2 := blk_frozen BK286.out 2; have hfz85_3 := blk_frozen BK286.out 3; have hfz85_4 := blk_frozen BK286.out 4))
                      go_roundg kj64
                      case measure => have := HJ4.out; have := HK2.out; have := HJ64.out; omega
                      case rel => exact ⟨(wrap64 (x8_2 + 1)), (t311), (t312), (t313), (t314), (t315), (by first | rfl | (simp; done) | (simp [*]; done)), H', ⟨by have := HJ4.out; have := HK2.out; have := HJ64.out; omega⟩, ⟨by (with_reducible repeat (first | refine blk_drewN ?_ _ | refine blk_drew ?_ | refine blk_alloc ?_ _)); refine blk_far ?_ NB285_286.out _; (with_reducible repeat (first | refine blk_drewN ?_ _ | refine blk_drew ?_ | refine blk_alloc ?_ _)); refine blk_far ?_ NB285_286.out _; (with_reducible repeat (first | refine blk_drewN ?_ _ | refine blk_drew ?_ | refine blk_alloc ?_ _)); refine blk_far ?_ NB285_286.out _; (with_reducible repeat (first | refine blk_drewN ?_ _ | refine blk_drew ?_ | refine blk_alloc ?_ _)); refine blk_far ?_ NB285_286.out _; (with_reducible repeat (first | refine blk_drewN ?_ _ | refine blk_drew ?_ | refine blk_alloc ?_ _)); refine blk_far ?_ NB285_286.out _; (with_reducible repeat (first | refine blk_drewN ?_ _ | refine blk_drew ?_ | refine blk_alloc ?_ _)); refine blk_far ?_ NB285_317.out _; (with_reducible repeat (first | refine blk_drewN ?_ _ | refine blk_drew ?_ | refine blk_alloc ?_ _)); refine blk_far ?_ NB285_317.out _; (with_reducible repeat (first | refine blk_drewN ?_ _ | refine blk_drew ?_ | refine blk_alloc ?_ _)); refine blk_far ?_ NB285_317.out _; (with_reducible repeat (first | refine blk_drewN ?_ _ | refine blk_drew ?_ | refine blk_alloc ?_ _)); refine blk_far ?_ NB285_317.out _; (with_reducible repeat (first | refine blk_drewN ?_ _ | refine blk_drew ?_ | refine blk_alloc ?_ _)); refine blk_far ?_ NB285_317.out _; (with_reducible repeat (first | refine blk_drewN ?_ _ | refine blk_drew ?_ | refine blk_alloc ?_ _)); exact BK285.out⟩, ⟨by (with_reducible repeat (first | refine blk_drewN ?_ _ | refine blk_drew ?_ | refine blk_alloc ?_ _)); refine blk_put (cs := #[.int .u32 t311, .int .u32 t312, .int .i64 t313, .int .i64 t314, .int .i64 x287004_2]) ?_ 4 _ rfl; (with_reducible repeat (first | refine blk_drewN ?_ _ | refine blk_drew ?_ | refine blk_alloc ?_ _)); refine blk_put (cs := #[.int .u32 t311, .int .u32 t312, .int .i64 t313, .int .i64 x287003_2, .int .i64 x287004_2]) ?_ 3 _ rfl; (with_reducible repeat (first | refine blk_drewN ?_ _ | refine blk_drew ?_ | refine blk_alloc ?_ _)); refine blk_put (cs := #[.int .u32 t311, .int .u32 t312, .int .i64 x287002_2, .int .i64 x287003_2, .int .i64 x287004_2]) ?_ 2 _ rfl; (with_reducible repeat (first | refine blk_drewN ?_ _ | refine blk_drew ?_ | refine blk_alloc ?_ _)); refine blk_put (cs := #[.int .u32 t311, .int .u32 x287001_2, .int .i64 x287002_2, .int .i64 x287003_2, .int .i64 x287004_2]) ?_ 1 _ rfl; (with_reducible repeat (first | refine blk_drewN ?_ _ | refine blk_drew ?_ | refine blk_alloc ?_ _)); refine blk_put (cs := #[.int .u32 x287000_2, .int .u32 x287001_2, .int .i64 x287002_2, .int .i64 x287003_2, .int .i64 x287004_2]) ?_ 0 _ rfl; (with_reducible repeat (first | refine blk_drewN ?_ _ | refine blk_drew ?_ | refine blk_alloc ?_ _)); refine blk_far ?_ NB286_317.out _; (with_reducible repeat (first | refine blk_drewN ?_ _ | refine blk_drew ?_ | refine blk_alloc ?_ _)); refine blk_far ?_ NB286_317.out _; (with_reducible repeat (first | refine blk_drewN ?_ _ | refine blk_drew ?_ | refine blk_alloc ?_ _)); refine blk_far ?_ NB286_317.out _; (with_reducible repeat (first | refine blk_drewN ?_ _ | refine blk_drew ?_ | refine blk_alloc ?_ _)); refine blk_far ?_ NB286_317.out _; (with_reducible repeat (first | refine blk_drewN ?_ _ | refine blk_drew ?_ | refine blk_alloc ?_ _)); refine blk_far ?_ NB286_317.out _; (with_reducible repeat (first | refine blk_drewN ?_ _ | refine blk_drew ?_ | refine blk_alloc ?_ _)); exact BK286.out⟩, ⟨by repeat (first | (with_reducible first | exact HB.out | apply below_alloc | apply pw_below_drewN | apply below_drew1 | refine below_set ?_ GE285.out | refine below_set ?_ GE286.out | refine below_set ?_ GE317.out) | exact HB.out)⟩⟩
            · rw [if_neg c64] at H
              have c64b0 : decide (x8_2 < a0_3) = false := decide_eq_false c64
              clear c64
              replace H := Option.bind_eq_some_iff.mp H
              obtain ⟨⟨t295, t296, t297, t298, t299, t300⟩, A860, H⟩ := H
              replace H : ((querier_New.f a0_0 a0_1 a0_2 a0_3 x287000_2).bind fun bt302 => (if t287 = true then (if t300 = true then (if bt302.2.2.2.2.2 = 0 then (if (x287000_2 == bt302.1 && (x287001_2 == bt302.2.1 && (x287002_2 == bt302.2.2.1 && (x287003_2 == bt302.2.2.2.1 && (x287004_2 == bt302.2.2.2.2.1))))) = true then ((querier_Asks.f t295 t296 t297 t298 t299).bind fun t309 => (some t309)) else (some false)) else (some false)) else (some false)) else (some false))) = some r := H
              have A86 := Aside0.mk A860
              clear A860
              replace H := Option.bind_eq_some_iff.mp H
              obtain ⟨⟨t302, t303, t304, t305, t306, t307⟩, A870, H⟩ := H
              replace H : (if t287 = true then (if t300 = true then (if t307 = 0 then (if (x287000_2 == t302 && (x287001_2 == t303 && (x287002_2 == t304 && (x287003_2 == t305 && (x287004_2 == t306))))) = true then ((querier_Asks.f t295 t296 t297 t298 t299).bind fun t309 => (some t309)) else (some false)) else (some false)) else (some false)) else (some false)) = some r := H
              have A87 := Aside0.mk A870
              clear A870
              by_cases c88 : t287 = true
              · subst c88
                have H1 : (if t300 = true then (if t307 = 0 then (if (x287000_2 == t302 && (x287001_2 == t303 && (x287002_2 == t304 && (x287003_2 == t305 && (x287004_2 == t306))))) = true then ((querier_Asks.f t295 t296 t297 t298 t299).bind fun t309 => (some t309)) else (some false)) else (some false)) else (some false)) = some r := by rw [if_pos rfl] at H; exact H
                clear H
                have H := H1
                clear H1
                by_cases c89 : t300 = true
                · subst c89
                  have H1 : (if t307 = 0 then (if (x287000_2 == t302 && (x287001_2 == t303 && (x287002_2 == t304 && (x287003_2 == t305 && (x287004_2 == t306))))) = true then ((querier_Asks.f t295 t296 t297 t298 t299).bind fun t309 => (some t309)) else (some false)) else (some false)) = some r := by rw [if_pos rfl] at H; exact H
                  clear H
                  have H := H1
                  clear H1
                  by_cases c90 : t307 = 0
                  · rw [if_pos c90] at H
                    have c90b0 : (t307 == 0) = true := beq_iff_eq.mpr c90
                    have c90b1 : (t307 != 0) = false := bne_eq_false_iff_eq.mpr c90
                    clear c90
                    by_cases c91 : (x287000_2 == t302 && (x287001_2 == t303 && (x287002_2 == t304 && (x287003_2 == t305 && (x287004_2 == t306))))) = true
                    · rw [if_pos c91] at H
                      have c91b0 : (x287000_2 == t302 && (x287001_2 == t303 && (x287002_2 == t304 && (x287003_2 == t305 && (x287004_2 == t306))))) = true := c91
                      (try (have c91b1 : decide (x287000_2 = t302 && (x287001_2 == t303 && (x287002_2 == t304 && (x287003_2 == t305 && (x287004_2 == t306))))) = true := by simpa using c91))
                      (try (have c91b2 : (x287000_2 == t302 && (x287001_2 == t303 && (x287002_2 == t304 && (x287003_2 == t305 && (x287004_2 == t306))))) = true := by simpa using c91))
                      clear c91
                      replace H := Option.bind_eq_some_iff.mp H
                      obtain ⟨t309, A920, H⟩ := H
                      replace H : (some t309) = some r := H
                      have A92 := Aside0.mk A920
                      clear A920
                      obtain rfl := Option.some.inj H
                      have hnb93 := NB285_286.out
                      have hnc93 := NB286_285.out
                      have hcz94_0 : wr.cell? ⟨gb285, 0, none⟩ = some (.int .i64 a0_0) := (blk_cell BK285.out 0).trans rfl
                      have hcz94_1 : wr.cell? ⟨gb285, 1, none⟩ = some (.int .i64 a0_1) := (blk_cell BK285.out 1).trans rfl
                      have hcz94_2 : wr.cell? ⟨gb285, 2, none⟩ = some (.int .i64 a0_2) := (blk_cell BK285.out 2).trans rfl
                      have hcz94_3 : wr.cell? ⟨gb285, 3, none⟩ = some (.int .i64 a0_3) := (blk_cell BK285.out 3).trans rfl
                      have hfz94_0 := blk_frozen BK285.out 0
                      have hfz94_1 := blk_frozen BK285.out 1
                      have hfz94_2 := blk_frozen BK285.out 2
                      have hfz94_3 := blk_frozen BK285.out 3
                      have hcz95_0 : wr.cell? ⟨gb286, 0, none⟩ = some (.int .u32 x287000_2) := (blk_cell BK286.out 0).trans rfl
                      have hcz95_1 : wr.cell? ⟨gb286, 1, none⟩ = some (.int .u32 x287001_2) := (blk_cell BK286.out 1).trans rfl
                      have hcz95_2 : wr.cell? ⟨gb286, 2, none⟩ = some (.int .i64 x287002_2) := (blk_cell BK286.out 2).trans rfl
                      have hcz95_3 : wr.cell? ⟨gb286, 3, none⟩ = some (.int .i64 x287003_2) := (blk_cell BK286.out 3).trans rfl
                      have hcz95_4 : wr.cell? ⟨gb286, 4, none⟩ = some (.int .i64 x287004_2) := (blk_cell BK286.out 4).trans rfl
                      have hfz95_0 := blk_frozen BK286.out 0
                      have hfz95_1 := blk_frozen BK286.out 1
                      have hfz95_2 := blk_frozen BK286.out 2
                      have hfz95_3 := blk_frozen BK286.out 3
                      have hfz95_4 := blk_frozen BK286.out 4
                      go_wp2_with (first | ((with_reducible refine gate_callee (f := 17) rfl ?_); refine goesL_ (some 80) rfl rfl Try.func17 (by kernel_rfl) rfl #[.agg #[.int .i64 a0_0, .int .i64 a0_1, .int .i64 a0_2, .int .i64 a0_3], .agg #[.int .u32 x287000_2, .int .u32 x287001_2, .int .i64 x287002_2, .int .i64 x287003_2, .int .i64 x287004_2]] rfl (by (try simp only [List.map_toArray, List.map_cons, List.map_nil]); first | done | rfl | (simp only [List.length_drop, List.length_take]; rfl)) ?_; (with_reducible refine (querier_Tick.calls a0_0 a0_1 a0_2 a0_3 x287000_2 x287001_2 x287002_2 x287003_2 x287004_2 t295 t296 t297 t298 t299 true _ A86.out).mono ?_); rintro e w96 ⟨rfl, hb⟩; refine ⟨_, rfl, ?_⟩; have n0_ := Aside0.mk (blk_below (g := gb285) (o := .cells #[.int .i64 a0_0, .int .i64 a0_1, .int .i64 a0_2, .int .i64 a0_3] 23 (0, 0)) (by (with_reducible repeat (first | refine blk_drewN ?_ _ | refine blk_drew ?_ | refine blk_alloc ?_ _)); exact BK285.out) hb); have n1_ := Aside0.mk (blk_below (g := gb286) (o := .cells #[.int .u32 x287000_2, .int .u32 x287001_2, .int .i64 x287002_2, .int .i64 x287003_2, .int .i64 x287004_2] 27 (0, 0)) (by (with_reducible repeat (first | refine blk_drewN ?_ _ | refine blk_drew ?_ | refine blk_alloc ?_ _)); exact BK286.out) hb); have n2_ := Aside0.mk (below_step (by repeat (first | (with_reducible first | exact HB.out | apply below_alloc | apply pw_below_drewN | apply below_drew1 | refine below_set ?_ GE285.out | refine below_set ?_ GE286.out) | exact HB.out)) hb); clear BK285; clear BK286; clear HB; have BK285 := n0_; have BK286 := n1_; have HB := n2_; clear n0_ n1_ n2_; (try clear hb); (try clear hb2); (try clear hk); (try clear hi)) | ((with_reducible refine gate_dst (N := 11) rfl ?_); refine box_event ?hg (N := 11) ?hd (cs := #[.int .u32 0, .int .u32 0, .int .i64 0, .int .i64 0, .int .i64 0]) (t := 27) ?hr ?_; (case hd => rfl); (case hg => rfl); (case hr => first | (go_simp; done) | (go_simp; rfl)); intro gb301 hg w97 hbox hb; have n0_ := Aside0.mk (blk_below (g := gb285) (o := .cells #[.int .i64 a0_0, .int .i64 a0_1, .int .i64 a0_2, .int .i64 a0_3] 23 (0, 0)) (by (with_reducible repeat (first | refine blk_drewN ?_ _ | refine blk_drew ?_ | refine blk_alloc ?_ _)); exact BK285.out) hb); have n1_ := Aside0.mk (blk_below (g := gb286) (o := .cells #[.int .u32 x287000_2, .int .u32 x287001_2, .int .i64 x287002_2, .int .i64 x287003_2, .int .i64 x287004_2] 27 (0, 0)) (by (with_reducible repeat (first | refine blk_drewN ?_ _ | refine blk_drew ?_ | refine blk_alloc ?_ _)); exact BK286.out) hb); have n2_ := Aside0.mk (below_step (by repeat (first | (with_reducible first | exact HB.out | apply below_alloc | apply pw_below_drewN | apply below_drew1 | refine below_set ?_ GE285.out | refine below_set ?_ GE286.out) | exact HB.out)) hb); have n3_ := Aside0.mk (hbox); have n4_ := Aside0.mk ((by rw [hg]; exact (below_size (by repeat (first | (with_reducible first | exact HB.out | apply below_alloc | apply pw_below_drewN | apply below_drew1 | refine below_set ?_ GE285.out | refine below_set ?_ GE286.out) | exact HB.out))) : w.heap.size ≤ gb301)); have n5_ := Aside0.mk ((by rw [hg]; exact (below_size (by repeat (first | (with_reducible first | exact HB.out | apply below_alloc | apply pw_below_drewN | apply below_drew1 | refine below_set ?_ GE285.out | refine below_set ?_ GE286.out) | exact HB.out))) : w.heap.size ≤ gb301)); have n6_ := Aside0.mk ((by rw [hg]; exact Nat.ne_of_lt (blk_lt (g := gb285) (o := .cells #[.int .i64 a0_0, .int .i64 a0_1, .int .i64 a0_2, .int .i64 a0_3] 23 (0, 0)) (by (with_reducible repeat (first | refine blk_drewN ?_ _ | refine blk_drew ?_ | refine blk_alloc ?_ _)); exact BK285.out)) : gb285 ≠ gb301)); have n7_ := Aside0.mk ((by rw [hg]; exact Nat.ne_of_gt (blk_lt (g := gb285) (o := .cells #[.int .i64 a0_0, .int .i64 a0_1, .int .i64 a0_2, .int .i64 a0_3] 23 (0, 0)) (by (with_reducible repeat (first | refine blk_drewN ?_ _ | refine blk_drew ?_ | refine blk_alloc ?_ _)); exact BK285.out)) : gb301 ≠ gb285)); have n8_ := Aside0.mk ((by rw [hg]; exact Nat.ne_of_lt (blk_lt (g := gb286) (o := .cells #[.int .u32 x287000_2, .int .u32 x287001_2, .int .i64 x287002_2, .int .i64 x287003_2, .int .i64 x287004_2] 27 (0, 0)) (by (with_reducible repeat (first | refine blk_drewN ?_ _ | refine blk_drew ?_ | refine blk_alloc ?_ _)); exact BK286.out)) : gb286 ≠ gb301)); have n9_ := Aside0.mk ((by rw [hg]; exact Nat.ne_of_gt (blk_lt (g := gb286) (o := .cells #[.int .u32 x287000_2, .int .u32 x287001_2, .int .i64 x287002_2, .int .i64 x287003_2, .int .i64 x287004_2] 27 (0, 0)) (by (with_reducible repeat (first | refine blk_drewN ?_ _ | refine blk_drew ?_ | refine blk_alloc ?_ _)); exact BK286.out)) : gb301 ≠ gb286)); clear BK285; clear BK286; clear HB; have BK285 := n0_; have BK286 := n1_; have HB := n2_; have BK301 := n3_; have GW301 := n4_; have GE301 := n5_; have NB285_301 := n6_; have NB301_285 := n7_; have NB286_301 := n8_; have NB301_286 := n9_; clear n0_ n1_ n2_ n3_ n4_ n5_ n6_ n7_ n8_ n9_; clear hb hbox hg; have hnb98 := NB301_285.out; have hnc98 := NB285_301.out; have hnb99 := NB301_286.out; have hnc99 := NB286_301.out; have hcz100_0 : w97.cell? ⟨gb301, 0, none⟩ = some (.int .u32 0) := (blk_cell BK301.out 0).trans rfl; have hcz100_1 : w97.cell? ⟨gb301, 1, none⟩ = some (.int .u32 0) := (blk_cell BK301.out 1).trans rfl; have hcz100_2 : w97.cell? ⟨gb301, 2, none⟩ = some (.int .i64 0) := (blk_cell BK301.out 2).trans rfl; have hcz100_3 : w97.cell? ⟨gb301, 3, none⟩ = some (.int .i64 0) := (blk_cell BK301.out 3).trans rfl; have hcz100_4 : w97.cell? ⟨gb301, 4, none⟩ = some (.int .i64 0) := (blk_cell BK301.out 4).trans rfl; have hfz100_0 := blk_frozen BK301.out 0; have hfz100_1 := blk_frozen BK301.out 1; have hfz100_2 := blk_frozen BK301.out 2; have hfz100_3 := blk_frozen BK301.out 3; have hfz100_4 := blk_frozen BK301.out 4; have hcz101_0 : w97.cell? ⟨gb285, 0, none⟩ = some (.int .i64 a0_0) := (blk_cell BK285.out 0).trans rfl; have hcz101_1 : w97.cell? ⟨gb285, 1, none⟩ = some (.int .i64 a0_1) := (blk_cell BK285.out 1).trans rfl; have hcz101_2 : w97.cell? ⟨gb285, 2, none⟩ = some (.int .i64 a0_2) := (blk_cell BK285.out 2).trans rfl; have hcz101_3 : w97.cell? ⟨gb285, 3, none⟩ = some (.int .i64 a0_3) := (blk_cell BK285.out 3).trans rfl; have hfz101_0 := blk_frozen BK285.out 0; have hfz101_1 := blk_frozen BK285.out 1; have hfz101_2 := blk_frozen BK285.out 2; have hfz101_3 := blk_frozen BK285.out 3; have hcz102_0 : w97.cell? ⟨gb286, 0, none⟩ = some (.int .u32 x287000_2) := (blk_cell BK286.out 0).trans rfl; have hcz102_1 : w97.cell? ⟨gb286, 1, none⟩ = some (.int .u32 x287001_2) := (blk_cell BK286.out 1).trans rfl; have hcz102_2 : w97.cell? ⟨gb286, 2, none⟩ = some (.int .i64 x287002_2) := (blk_cell BK286.out 2).trans rfl; have hcz102_3 : w97.cell? ⟨gb286, 3, none⟩ = some (.int .i64 x287003_2) := (blk_cell BK286.out 3).trans rfl; have hcz102_4 : w97.cell? ⟨gb286, 4, none⟩ = some (.int .i64 x287004_2) := (blk_cell BK286.out 4).trans rfl; have hfz102_0 := blk_frozen BK286.out 0; have hfz102_1 := blk_frozen BK286.out 1; have hfz102_2 := blk_frozen BK286.out 2; have hfz102_3 := blk_frozen BK286.out 3; have hfz102_4 := blk_frozen BK286.out 4) | ((with_reducible refine gate_callee (f := 10) rfl ?_); refine goesL_ (some 87) rfl rfl Try.func10 (by kernel_rfl) rfl #[.agg #[.int .i64 a0_0, .int .i64 a0_1, .int .i64 a0_2, .int .i64 a0_3], .int .u32 x287000_2] rfl (by (try simp only [List.map_toArray, List.map_cons, List.map_nil]); first | done | rfl | (simp only [List.length_drop, List.length_take]; rfl)) ?_; (with_reducible refine (querier_New.calls a0_0 a0_1 a0_2 a0_3 x287000_2 t302 t303 t304 t305 t306 t307 _ A87.out).mono ?_); rintro e w103 ⟨rfl, hb⟩; refine ⟨_, rfl, ?_⟩; have n0_ := Aside0.mk (blk_below (g := gb285) (o := .cells #[.int .i64 a0_0, .int .i64 a0_1, .int .i64 a0_2, .int .i64 a0_3] 23 (0, 0)) (by (with_reducible repeat (first | refine blk_drewN ?_ _ | refine blk_drew ?_ | refine blk_alloc ?_ _)); refine blk_far ?_ NB285_301.out _; (with_reducible repeat (first | refine blk_drewN ?_ _ | refine blk_drew ?_ | refine blk_alloc ?_ _)); refine blk_far ?_ NB285_301.out _; (with_reducible repeat (first | refine blk_drewN ?_ _ | refine blk_drew ?_ | refine blk_alloc ?_ _)); refine blk_far ?_ NB285_301.out _; (with_reducible repeat (first | refine blk_drewN ?_ _ | refine blk_drew ?_ | refine blk_alloc ?_ _)); refine blk_far ?_ NB285_301.out _; (with_reducible repeat (first | refine blk_drewN ?_ _ | refine blk_drew ?_ | refine blk_alloc ?_ _)); refine blk_far ?_ NB285_301.out _; (with_reducible repeat (first | refine blk_drewN ?_ _ | refine blk_drew ?_ | refine blk_alloc ?_ _)); exact BK285.out) hb); have n1_ := Aside0.mk (blk_below (g := gb286) (o := .cells #[.int .u32 x287000_2, .int .u32 x287001_2, .int .i64 x287002_2, .int .i64 x287003_2, .int .i64 x287004_2] 27 (0, 0)) (by (with_reducible repeat (first | refine blk_drewN ?_ _ | refine blk_drew ?_ | refine blk_alloc ?_ _)); refine blk_far ?_ NB286_301.out _; (with_reducible repeat (first | refine blk_drewN ?_ _ | refine blk_drew ?_ | refine blk_alloc ?_ _)); refine blk_far ?_ NB286_301.out _; (with_reducible repeat (first | refine blk_drewN ?_ _ | refine blk_drew ?_ | refine blk_alloc ?_ _)); refine blk_far ?_ NB286_301.out _; (with_reducible repeat (first | refine blk_drewN ?_ _ | refine blk_drew ?_ | refine blk_alloc ?_ _)); refine blk_far ?_ NB286_301.out _; (with_reducible repeat (first | refine blk_drewN ?_ _ | refine blk_drew ?_ | refine blk_alloc ?_ _)); refine blk_far ?_ NB286_301.out _; (with_reducible repeat (first | refine blk_drewN ?_ _ | refine blk_drew ?_ | refine blk_alloc ?_ _)); exact BK286.out) hb); have n2_ := Aside0.mk (blk_below (g := gb301) (o := .cells #[.int .u32 t295, .int .u32 t296, .int .i64 t297, .int .i64 t298, .int .i64 t299] 27 (0, 0)) (by (with_reducible repeat (first | refine blk_drewN ?_ _ | refine blk_drew ?_ | refine blk_alloc ?_ _)); refine blk_put (cs := #[.int .u32 t295, .int .u32 t296, .int .i64 t297, .int .i64 t298, .int .i64 0]) ?_ 4 _ rfl; (with_reducible repeat (first | refine blk_drewN ?_ _ | refine blk_drew ?_ | refine blk_alloc ?_ _)); refine blk_put (cs := #[.int .u32 t295, .int .u32 t296, .int .i64 t297, .int .i64 0, .int .i64 0]) ?_ 3 _ rfl; (with_reducible repeat (first | refine blk_drewN ?_ _ | refine blk_drew ?_ | refine blk_alloc ?_ _)); refine blk_put (cs := #[.int .u32 t295, .int .u32 t296, .int .i64 0, .int .i64 0, .int .i64 0]) ?_ 2 _ rfl; (with_reducible repeat (first | refine blk_drewN ?_ _ | refine blk_drew ?_ | refine blk_alloc ?_ _)); refine blk_put (cs := #[.int .u32 t295, .int .u32 0, .int .i64 0, .int .i64 0, .int .i64 0]) ?_ 1 _ rfl; (with_reducible repeat (first | refine blk_drewN ?_ _ | refine blk_drew ?_ | refine blk_alloc ?_ _)); refine blk_put (cs := #[.int .u32 0, .int .u32 0, .int .i64 0, .int .i64 0, .int .i64 0]) ?_ 0 _ rfl; (with_reducible repeat (first | refine blk_drewN ?_ _ | refine blk_drew ?_ | refine blk_alloc ?_ _)); exact BK301.out) hb); have n3_ := Aside0.mk (below_step (by repeat (first | (with_reducible first | exact HB.out | apply below_alloc | apply pw_below_drewN | apply below_drew1 | refine below_set ?_ GE285.out | refine below_set ?_ GE286.out | refine below_set ?_ GE301.out) | exact HB.out)) hb); clear BK285; clear BK286; clear BK301; clear HB; have BK285 := n0_; have BK286 := n1_; have BK301 := n2_; have HB := n3_; clear n0_ n1_ n2_ n3_; (try clear hb); (try clear hb2); (try clear hk); (try clear hi)) | ((with_reducible refine gate_dst (N := 13) rfl ?_); refine box_event ?hg (N := 13) ?hd (cs := #[.int .u32 0, .int .u32 0, .int .i64 0, .int .i64 0, .int .i64 0]) (t := 27) ?hr ?_; (case hd => rfl); (case hg => rfl); (case hr => first | (go_simp; done) | (go_simp; rfl)); intro gb308 hg w104 hbox hb; have n0_ := Aside0.mk (blk_below (g := gb285) (o := .cells #[.int .i64 a0_0, .int .i64 a0_1, .int .i64 a0_2, .int .i64 a0_3] 23 (0, 0)) (by (with_reducible repeat (first | refine blk_drewN ?_ _ | refine blk_drew ?_ | refine blk_alloc ?_ _)); exact BK285.out) hb); have n1_ := Aside0.mk (blk_below (g := gb286) (o := .cells #[.int .u32 x287000_2, .int .u32 x287001_2, .int .i64 x287002_2, .int .i64 x287003_2, .int .i64 x287004_2] 27 (0, 0)) (by (with_reducible repeat (first | refine blk_drewN ?_ _ | refine blk_drew ?_ | refine blk_alloc ?_ _)); exact BK286.out) hb); have n2_ := Aside0.mk (blk_below (g := gb301) (o := .cells #[.int .u32 t295, .int .u32 t296, .int .i64 t297, .int .i64 t298, .int .i64 t299] 27 (0, 0)) (by (with_reducible repeat (first | refine blk_drewN ?_ _ | refine blk_drew ?_ | refine blk_alloc ?_ _)); exact BK301.out) hb); have n3_ := Aside0.mk (below_step (by repeat (first | (with_reducible first | exact HB.out | apply below_alloc | apply pw_below_drewN | apply below_drew1 | refine below_set ?_ GE285.out | refine below_set ?_ GE286.out | refine below_set ?_ GE301.out) | exact HB.out)) hb); have n4_ := Aside0.mk (hbox); have n5_ := Aside0.mk ((by rw [hg]; exact (below_size (by repeat (first | (with_reducible first | exact HB.out | apply below_alloc | apply pw_below_drewN | apply below_drew1 | refine below_set ?_ GE285.out | refine below_set ?_ GE286.out | refine below_set ?_ GE301.out) | exact HB.out))) : w.heap.size ≤ gb308)); have n6_ := Aside0.mk ((by rw [hg]; exact (below_size (by repeat (first | (with_reducible first | exact HB.out | apply below_alloc | apply pw_below_drewN | apply below_drew1 | refine below_set ?_ GE285.out | refine below_set ?_ GE286.out | refine below_set ?_ GE301.out) | exact HB.out))) : w.heap.size ≤ gb308)); have n7_ := Aside0.mk ((by rw [hg]; exact Nat.ne_of_lt (blk_lt (g := gb285) (o := .cells #[.int .i64 a0_0, .int .i64 a0_1, .int .i64 a0_2, .int .i64 a0_3] 23 (0, 0)) (by (with_reducible repeat (first | refine blk_drewN ?_ _ | refine blk_drew ?_ | refine blk_alloc ?_ _)); exact BK285.out)) : gb285 ≠ gb308)); have n8_ := Aside0.mk ((by rw [hg]; exact Nat.ne_of_gt (blk_lt (g := gb285) (o := .cells #[.int .i64 a0_0, .int .i64 a0_1, .int .i64 a0_2, .int .i64 a0_3] 23 (0, 0)) (by (with_reducible repeat (first | refine blk_drewN ?_ _ | refine blk_drew ?_ | refine blk_alloc ?_ _)); exact BK285.out)) : gb308 ≠ gb285)); have n9_ := Aside0.mk ((by rw [hg]; exact Nat.ne_of_lt (blk_lt (g := gb286) (o := .cells #[.int .u32 x287000_2, .int .u32 x287001_2, .int .i64 x287002_2, .int .i64 x287003_2, .int .i64 x287004_2] 27 (0, 0)) (by (with_reducible repeat (first | refine blk_drewN ?_ _ | refine blk_drew ?_ | refine blk_alloc ?_ _)); exact BK286.out)) : gb286 ≠ gb308)); have n10_ := Aside0.mk ((by rw [hg]; exact Nat.ne_of_gt (blk_lt (g := gb286) (o := .cells #[.int .u32 x287000_2, .int .u32 x287001_2, .int .i64 x287002_2, .int .i64 x287003_2, .int .i64 x287004_2] 27 (0, 0)) (by (with_reducible repeat (first | refine blk_drewN ?_ _ | refine blk_drew ?_ | refine blk_alloc ?_ _)); exact BK286.out)) : gb308 ≠ gb286)); have n11_ := Aside0.mk ((by rw [hg]; exact Nat.ne_of_lt (blk_lt (g := gb301) (o := .cells #[.int .u32 t295, .int .u32 t296, .int .i64 t297, .int .i64 t298, .int .i64 t299] 27 (0, 0)) (by (with_reducible repeat (first | refine blk_drewN ?_ _ | refine blk_drew ?_ | refine blk_alloc ?_ _)); exact BK301.out)) : gb301 ≠ gb308)); have n12_ := Aside0.mk ((by rw [hg]; exact Nat.ne_of_gt (blk_lt (g := gb301) (o := .cells #[.int .u32 t295, .int .u32 t296, .int .i64 t297, .int .i64 t298, .int .i64 t299] 27 (0, 0)) (by (with_reducible repeat (first | refine blk_drewN ?_ _ | refine blk_drew ?_ | refine blk_alloc ?_ _)); exact BK301.out)) : gb308 ≠ gb301)); clear BK285; clear BK286; clear BK301; clear HB; have BK285 := n0_; have BK286 := n1_; have BK301 := n2_; have HB := n3_; have BK308 := n4_; have GW308 := n5_; have GE308 := n6_; have NB285_308 := n7_; have NB308_285 := n8_; have NB286_308 := n9_; have NB308_286 := n10_; have NB301_308 := n11_; have NB308_301 := n12_; clear n0_ n1_ n2_ n3_ n4_ n5_ n6_ n7_ n8_ n9_ n10_ n11_ n12_; clear hb hbox hg; have hnb105 := NB308_285.out; have hnc105 := NB285_308.out; have hnb106 := NB308_286.out; have hnc106 := NB286_308.out; have hnb107 := NB308_301.out; have hnc107 := NB301_308.out; have hcz108_0 : w104.cell? ⟨gb308, 0, none⟩ = some (.int .u32 0) := (blk_cell BK308.out 0).trans rfl; have hcz108_1 : w104.cell? ⟨gb308, 1, none⟩ = some (.int .u32 0) := (blk_cell BK308.out 1).trans rfl; have hcz108_2 : w104.cell? ⟨gb308, 2, none⟩ = some (.int .i64 0) := (blk_cell BK308.out 2).trans rfl; have hcz108_3 : w104.cell? ⟨gb308, 3, none⟩ = some (.int .i64 0) := (blk_cell BK308.out 3).trans rfl; have hcz108_4 : w104.cell? ⟨gb308, 4, none⟩ = some (.int .i64 0) := (blk_cell BK308.out 4).trans rfl; have hfz108_0 := blk_frozen BK308.out 0; have hfz108_1 := blk_frozen BK308.out 1; have hfz108_2 := blk_frozen BK308.out 2; have hfz108_3 := blk_frozen BK308.out 3; have hfz108_4 := blk_frozen BK308.out 4; have hcz109_0 : w104.cell? ⟨gb286, 0, none⟩ = some (.int .u32 x287000_2) := (blk_cell BK286.out 0).trans rfl; have hcz109_1 : w104.cell? ⟨gb286, 1, none⟩ = some (.int .u32 x287001_2) := (blk_cell BK286.out 1).trans rfl; have hcz109_2 : w104.cell? ⟨gb286, 2, none⟩ = some (.int .i64 x287002_2) := (blk_cell BK286.out 2).trans rfl; have hcz109_3 : w104.cell? ⟨gb286, 3, none⟩ = some (.int .i64 x287003_2) := (blk_cell BK286.out 3).trans rfl; have hcz109_4 : w104.cell? ⟨gb286, 4, none⟩ = some (.int .i64 x287004_2) := (blk_cell BK286.out 4).trans rfl; have hfz109_0 := blk_frozen BK286.out 0; have hfz109_1 := blk_frozen BK286.out 1; have hfz109_2 := blk_frozen BK286.out 2; have hfz109_3 := blk_frozen BK286.out 3; have hfz109_4 := blk_frozen BK286.out 4; have hcz110_0 : w104.cell? ⟨gb301, 0, none⟩ = some (.int .u32 t295) := (blk_cell BK301.out 0).trans rfl; have hcz110_1 : w104.cell? ⟨gb301, 1, none⟩ = some (.int .u32 t296) := (blk_cell BK301.out 1).trans rfl; have hcz110_2 : w104.cell? ⟨gb301, 2, none⟩ = some (.int .i64 t297) := (blk_cell BK301.out 2).trans rfl; have hcz110_3 : w104.cell? ⟨gb301, 3, none⟩ = some (.int .i64 t298) := (blk_cell BK301.out 3).trans rfl; have hcz110_4 : w104.cell? ⟨gb301, 4, none⟩ = some (.int .i64 t299) := (blk_cell BK301.out 4).trans rfl; have hfz110_0 := blk_frozen BK301.out 0; have hfz110_1 := blk_frozen BK301.out 1; have hfz110_2 := blk_frozen BK301.out 2; have hfz110_3 := blk_frozen BK301.out 3; have hfz110_4 := blk_frozen BK301.out 4) | (go_at_call 16; (with_reducible refine (querier_Asks.calls t295 t296 t297 t298 t299 t309 _ A92.out).mono ?_); rintro e w111 ⟨rfl, hb⟩; have n0_ := Aside0.mk (blk_below (g := gb285) (o := .cells #[.int .i64 a0_0, .int .i64 a0_1, .int .i64 a0_2, .int .i64 a0_3] 23 (0, 0)) (by (with_reducible repeat (first | refine blk_drewN ?_ _ | refine blk_drew ?_ | refine blk_alloc ?_ _)); refine blk_far ?_ NB285_308.out _; (with_reducible repeat (first | refine blk_drewN ?_ _ | refine blk_drew ?_ | refine blk_alloc ?_ _)); refine blk_far ?_ NB285_308.out _; (with_reducible repeat (first | refine blk_drewN ?_ _ | refine blk_drew ?_ | refine blk_alloc ?_ _)); refine blk_far ?_ NB285_308.out _; (with_reducible repeat (first | refine blk_drewN ?_ _ | refine blk_drew ?_ | refine blk_alloc ?_ _)); refine blk_far ?_ NB285_308.out _; (with_reducible repeat (first | refine blk_drewN ?_ _ | refine blk_drew ?_ | refine blk_alloc ?_ _)); refine blk_far ?_ NB285_308.out _; (with_reducible repeat (first | refine blk_drewN ?_ _ | refine blk_drew ?_ | refine blk_alloc ?_ _)); exact BK285.out) hb); have n1_ := Aside0.mk (blk_below (g := gb286) (o := .cells #[.int .u32 x287000_2, .int .u32 x287001_2, .int .i64 x287002_2, .int .i64 x287003_2, .int .i64 x287004_2] 27 (0, 0)) (by (with_reducible repeat (first | refine blk_drewN ?_ _ | refine blk_drew ?_ | refine blk_alloc ?_ _)); refine blk_far ?_ NB286_308.out _; (with_reducible repeat (first | refine blk_drewN ?_ _ | refine blk_drew ?_ | refine blk_alloc ?_ _)); refine blk_far ?_ NB286_308.out _; (with_reducible repeat (first | refine blk_drewN ?_ _ | refine blk_drew ?_ | refine blk_alloc ?_ _)); refine blk_far ?_ NB286_308.out _; (with_reducible repeat (first | refine blk_drewN ?_ _ | refine blk_drew ?_ | refine blk_alloc ?_ _)); refine blk_far ?_ NB286_308.out _; (with_reducible repeat (first | refine blk_drewN ?_ _ | refine blk_drew ?_ | refine blk_alloc ?_ _)); refine blk_far ?_ NB286_308.out _; (with_reducible repeat (first | refine blk_drewN ?_ _ | refine blk_drew ?_ | refine blk_alloc ?_ _)); exact BK286.out) hb); have n2_ := Aside0.mk (blk_below (g := gb301) (o := .cells #[.int .u32 t295, .int .u32 t296, .int .i64 t297, .int .i64 t298, .int .i64 t299] 27 (0, 0)) (by (with_reducible repeat (first | refine blk_drewN ?_ _ | refine blk_drew ?_ | refine blk_alloc ?_ _)); refine blk_far ?_ NB301_308.out _; (with_reducible repeat (first | refine blk_drewN ?_ _ | refine blk_drew ?_ | refine blk_alloc ?_ _)); refine blk_far ?_ NB301_308.out _; (with_reducible repeat (first | refine blk_drewN ?_ _ | refine blk_drew ?_ | refine blk_alloc ?_ _)); refine blk_far ?_ NB301_308.out _; (with_reducible repeat (first | refine blk_drewN ?_ _ | refine blk_drew ?_ | refine blk_alloc ?_ _)); refine blk_far ?_ NB301_308.out _; (with_reducible repeat (first | refine blk_drewN ?_ _ | refine blk_drew ?_ | refine blk_alloc ?_ _)); refine blk_far ?_ NB301_308.out _; (with_reducible repeat (first | refine blk_drewN ?_ _ | refine blk_drew ?_ | refine blk_alloc ?_ _)); exact BK301.out) hb); have n3_ := Aside0.mk (blk_below (g := gb308) (o := .cells #[.int .u32 t302, .int .u32 t303, .int .i64 t304, .int .i64 t305, .int .i64 t306] 27 (0, 0)) (by (with_reducible repeat (first | refine blk_drewN ?_ _ | refine blk_drew ?_ | refine blk_alloc ?_ _)); refine blk_put (cs := #[.int .u32 t302, .int .u32 t303, .int .i64 t304, .int .i64 t305, .int .i64 0]) ?_ 4 _ rfl; (with_reducible repeat (first | refine blk_drewN ?_ _ | refine blk_drew ?_ | refine blk_alloc ?_ _)); refine blk_put (cs := #[.int .u32 t302, .int .u32 t303, .int .i64 t304, .int .i64 0, .int .i64 0]) ?_ 3 _ rfl; (with_reducible repeat (first | refine blk_drewN ?_ _ | refine blk_drew ?_ | refine blk_alloc ?_ _)); refine blk_put (cs := #[.int .u32 t302, .int .u32 t303, .int .i64 0, .int .i64 0, .int .i64 0]) ?_ 2 _ rfl; (with_reducible repeat (first | refine blk_drewN ?_ _ | refine blk_drew ?_ | refine blk_alloc ?_ _)); refine blk_put (cs := #[.int .u32 t302, .int .u32 0, .int .i64 0, .int .i64 0, .int .i64 0]) ?_ 1 _ rfl; (with_reducible repeat (first | refine blk_drewN ?_ _ | refine blk_drew ?_ | refine blk_alloc ?_ _)); refine blk_put (cs := #[.int .u32 0, .int .u32 0, .int .i64 0, .int .i64 0, .int .i64 0]) ?_ 0 _ rfl; (with_reducible repeat (first | refine blk_drewN ?_ _ | refine blk_drew ?_ | refine blk_alloc ?_ _)); exact BK308.out) hb); have n4_ := Aside0.mk (below_step (by repeat (first | (with_reducible first | exact HB.out | apply below_alloc | apply pw_below_drewN | apply below_drew1 | refine below_set ?_ GE285.out | refine below_set ?_ GE286.out | refine below_set ?_ GE301.out | refine below_set ?_ GE308.out) | exact HB.out)) hb); clear BK285; clear BK286; clear BK301; clear BK308; clear HB; have BK285 := n0_; have BK286 := n1_; have BK301 := n2_; have BK308 := n3_; have HB := n4_; clear n0_ n1_ n2_ n3_ n4_; (try clear hb); (try clear hb2); (try clear hk); (try clear hi)))
                      go_ret
                      exact ⟨by first | rfl | (simp [errW_none, errW_some] <;> rfl) | (simp [*, errW_none, errW_some] <;> rfl), by repeat (first | (with_reducible first | exact HB.out | apply below_alloc | apply pw_below_drewN | apply below_drew1 | refine below_set ?_ GE285.out | refine below_set ?_ GE286.out | refine below_set ?_ GE301.out | refine below_set ?_ GE308.out) | exact HB.out)⟩
                    · rw [if_neg c91] at H
                      have c91b0 : (x287000_2 == t302 && (x287001_2 == t303 && (x287002_2 == t304 && (x287003_2 == t305 && (x287004_2 == t306))))) = false := by simpa using c91
                      (try (have c91b1 : decide (x287000_2 = t302 && (x287001_2 == t303 && (x287002_2 == t304 && (x287003_2 == t305 && (x287004_2 == t306))))) = false := by simpa using c91))
                      (try (have c91b2 : (x287000_2 == t302 && (x287001_2 == t303 && (x287002_2 == t304 && (x287003_2 == t305 && (x287004_2 == t306))))) = false := by simpa using c91))
                      (try (have c91b3 : ¬ (x287000_2 = t302 && (x287001_2 == t303 && (x287002_2 == t304 && (x287003_2 == t305 && (x287004_2 == t306))))) := by simpa using c91))
                      clear c91
                      exact absurd ((Option.some.inj H).trans hTrue.out) (by simp)
                  · rw [if_neg c90] at H
                    have c90b0 : (t307 == 0) = false := beq_eq_false_iff_ne.mpr c90
                    have c90b1 : (t307 != 0) = true := bne_iff_ne.mpr c90
                    exact absurd ((Option.some.inj H).trans hTrue.out) (by simp)
                · replace c89 := Bool.eq_false_iff.mpr c89
                  subst c89
                  have H1 : (some false) = some r := by rw [if_neg (show ¬ (false = true) by decide)] at H; exact H
                  clear H
                  have H := H1
                  clear H1
                  exact absurd ((Option.some.inj H).trans hTrue.out) (by simp)
              · replace c88 := Bool.eq_false_iff.mpr c88
                subst c88
                have H1 : (some false) = some r := by rw [if_neg (show ¬ (false = true) by decide)] at H; exact H
                clear H
                have H := H1
                clear H1
                exact absurd ((Option.some.inj H).trans hTrue.out) (by simp)

end Go.Proofs.Ytlihbdinghoeeaa.P
